/- Dates and clock times read and written, program and reference alike. -/
import Derived.Test.YtdpkemjbiengfaaDoorQCal15
import Derived.Test.YtdpkemjbiengfaaDoorQCal16
import Derived.Test.YtdpkemjbiengfaaDoorCalText
namespace Go.Proofs.YtdpkemjbiengfaaDoor.Pure
open Go.RowKit Go.Proofs.YtdpkemjbiengfaaDoor.QCal Go.Proofs.YtdpkemjbiengfaaDoorW.PrintWords Go.Proofs.YtdpkemjbiengfaaDoorW.PrintLast Go.Proofs.YtdpkemjbiengfaaDoor.Mx

def pdOk (l : List UInt8) : Bool := decide (l.length = 10) && (decide ((((l.getD 4 0).toNat : Int)) = 45) && (decide ((((l.getD 7 0).toNat : Int)) = 45) && ((nl (l.take 4) 0).2 && ((nl ((l.take 7).drop 5) 0).2 && (nl (l.drop 8) 0).2))))
def pdy (l : List UInt8) : Int := (nl (l.take 4) 0).1
def pdm (l : List UInt8) : Int := (nl ((l.take 7).drop 5) 0).1
def pdd (l : List UInt8) : Int := (nl (l.drop 8) 0).1
def pd (l : List UInt8) : Int × Int × Int × Int := if pdOk l = true then (if vld (pdy l) (pdm l) (pdd l) = true then (pdy l, pdm l, pdd l, 0) else (0, 0, 0, 5)) else (0, 0, 0, 1)
theorem ten_l {s : ByteArray} (h : (s.size : Int) = 10) : s.data.toList.length = 10 := by rw [← sz]; omega
theorem pd_p {s : ByteArray} {k : Nat} (hk : 20 ≤ k) : calendar_ParseDate.f k s = some (pd s.data.toList) := by
  obtain ⟨q, rfl⟩ : ∃ q, k = q + 20 := ⟨k - 20, by omega⟩
  unfold calendar_ParseDate.f
  have hbad : pdOk s.data.toList = false → calendar_ParseDate.j0 (q + 20) s true = some (pd s.data.toList) := by
    intro h; rw [calendar_ParseDate.j0]; unfold pd; rw [if_pos rfl, if_neg (by rw [h]; decide)]
  by_cases h : (s.size : Int) = 10
  · have hl := ten_l h
    rw [if_pos h, if_pos (by omega), show bt s 4 = ((s.data.toList.getD 4 0).toNat : Int) from bt_l s 4, show bt s 7 = ((s.data.toList.getD 7 0).toNat : Int) from bt_l s 7]
    by_cases h4 : (((s.data.toList.getD 4 0).toNat : Int)) = 45
    · rw [if_pos h4, if_pos (by omega)]
      by_cases h7 : (((s.data.toList.getD 7 0).toNat : Int)) = 45
      · rw [h7]
        rw [calendar_ParseDate.j0]
        rw [if_neg (by decide), if_pos (by decide), if_pos (by omega), number_p (by rw [sz, ex_l]; simp; omega) (by rw [sz, ex_l]; simp; omega), Option.bind_some, if_pos (by decide), if_pos (by omega), number_p (by rw [sz, ex_l]; simp; omega) (by rw [sz, ex_l]; simp; omega), Option.bind_some, if_pos (by omega), number_p (by rw [sz, ex_l]; simp; omega) (by rw [sz, ex_l]; simp; omega), Option.bind_some]
        rw [ex_l, ex_l, ex_l, sz, List.take_length, List.drop_zero]
        rw [nv_eq (n := 4) (by simp; omega) (by decide), nv_eq (n := 2) (by simp; omega) (by decide), nv_eq (n := 2) (by simp; omega) (by decide)]
        have e : pdOk s.data.toList = ((nl (s.data.toList.take 4) 0).2 && ((nl ((s.data.toList.take 7).drop 5) 0).2 && (nl (s.data.toList.drop 8) 0).2)) := by
          unfold pdOk; rw [decide_eq_true hl, decide_eq_true h4, decide_eq_true h7]; rfl
        unfold pd
        rw [e]
        unfold pdy pdm pdd
        generalize nl (s.data.toList.take 4) 0 = a
        generalize nl ((s.data.toList.take 7).drop 5) 0 = b
        generalize nl (s.data.toList.drop 8) 0 = c
        obtain ⟨a, a'⟩ := a
        obtain ⟨b, b'⟩ := b
        obtain ⟨c, c'⟩ := c
        simp only [calendar_ParseDate.j1]
        rw [vld_p]
        cases a' <;> cases b' <;> cases c' <;> cases vld a b c <;> rfl
      · rw [show (((s.data.toList.getD 7 0).toNat : Int) != 45) = true from by simpa using h7]
        apply hbad
        unfold pdOk; rw [decide_eq_false h7]; simp
    · rw [if_neg h4]
      apply hbad
      unfold pdOk; rw [decide_eq_false h4]; simp
  · rw [if_neg h]
    apply hbad
    unfold pdOk; rw [decide_eq_false (by rw [← sz]; omega)]; rfl
theorem pd_r {s : ByteArray} {k : Nat} (hk : 20 ≤ k) : pairingref5_ParseDate.f k s = some (pd s.data.toList) := by
  obtain ⟨q, rfl⟩ : ∃ q, k = q + 20 := ⟨k - 20, by omega⟩
  unfold pairingref5_ParseDate.f
  have hbad : pdOk s.data.toList = false → pairingref5_ParseDate.j0 (q + 20) s true = some (pd s.data.toList) := by
    intro h; rw [pairingref5_ParseDate.j0]; unfold pd; rw [if_pos rfl, if_neg (by rw [h]; decide)]
  by_cases h : (s.size : Int) = 10
  · have hl := ten_l h
    rw [if_pos h, if_pos (by omega), show bt s 4 = ((s.data.toList.getD 4 0).toNat : Int) from bt_l s 4, show bt s 7 = ((s.data.toList.getD 7 0).toNat : Int) from bt_l s 7]
    by_cases h4 : (((s.data.toList.getD 4 0).toNat : Int)) = 45
    · rw [if_pos h4, if_pos (by omega)]
      by_cases h7 : (((s.data.toList.getD 7 0).toNat : Int)) = 45
      · rw [h7]
        rw [pairingref5_ParseDate.j0]
        rw [if_neg (by decide), if_pos (by decide), if_pos (by omega), digits_p 4 4 (by rw [sz, ex_l]; simp; omega) (by rw [sz, ex_l]; simp; omega), Option.bind_some, if_pos (by decide), if_pos (by omega), digits_p 2 2 (by rw [sz, ex_l]; simp; omega) (by rw [sz, ex_l]; simp; omega), Option.bind_some, if_pos (by omega), digits_p 2 2 (by rw [sz, ex_l]; simp; omega) (by rw [sz, ex_l]; simp; omega), Option.bind_some]
        rw [ex_l, ex_l, ex_l, sz, List.take_length, List.drop_zero]
        rw [show dv (s.data.toList.take 4) 4 4 = nl (s.data.toList.take 4) 0 from dv_eq (n := 4) (by simp; omega), show dv ((s.data.toList.take 7).drop 5) 2 2 = nl ((s.data.toList.take 7).drop 5) 0 from dv_eq (n := 2) (by simp; omega), show dv (s.data.toList.drop 8) 2 2 = nl (s.data.toList.drop 8) 0 from dv_eq (n := 2) (by simp; omega)]
        have e : pdOk s.data.toList = ((nl (s.data.toList.take 4) 0).2 && ((nl ((s.data.toList.take 7).drop 5) 0).2 && (nl (s.data.toList.drop 8) 0).2)) := by
          unfold pdOk; rw [decide_eq_true hl, decide_eq_true h4, decide_eq_true h7]; rfl
        unfold pd
        rw [e]
        unfold pdy pdm pdd
        generalize nl (s.data.toList.take 4) 0 = a
        generalize nl ((s.data.toList.take 7).drop 5) 0 = b
        generalize nl (s.data.toList.drop 8) 0 = c
        obtain ⟨a, a'⟩ := a
        obtain ⟨b, b'⟩ := b
        obtain ⟨c, c'⟩ := c
        simp only [pairingref5_ParseDate.j1]
        rw [vld_r]
        cases a' <;> cases b' <;> cases c' <;> cases vld a b c <;> rfl
      · rw [show (((s.data.toList.getD 7 0).toNat : Int) != 45) = true from by simpa using h7]
        apply hbad
        unfold pdOk; rw [decide_eq_false h7]; simp
    · rw [if_neg h4]
      apply hbad
      unfold pdOk; rw [decide_eq_false h4]; simp
  · rw [if_neg h]
    apply hbad
    unfold pdOk; rw [decide_eq_false (by rw [← sz]; omega)]; rfl

/-! dates written -/
def mk (l : List UInt8) : ByteArray := ⟨l.toArray⟩
theorem mk_l (l : List UInt8) : (mk l).data.toList = l := rfl
theorem mk_app (a b : List UInt8) : mk a ++ mk b = mk (a ++ b) := bytes_ext (by rw [app_l]; rfl)
def fdl (y m d : Int) : List UInt8 := p4 y.toNat ++ 45 :: (p2 m.toNat ++ 45 :: p2 d.toNat)
def fd (y m d : Int) : ByteArray × Int := if vld y m d = true then (mk (fdl y m d), 0) else (mk [], 5)
theorem fd_l {y m d : Int} : (fdl y m d).length = 10 := rfl
theorem fd_p (y m d : Int) {k : Nat} (hk : 10 ≤ k) : calendar_FormatDate.f k y m d = some (fd y m d) := by
  unfold calendar_FormatDate.f fd
  rw [vld_p, Option.bind_some]
  by_cases h : vld y m d = true
  · rw [if_pos h, if_pos h]
    have g := vld_iff.1 h
    have hh := dim_hi y m
    rw [pad4 (by omega) (by omega) (by omega), pad2 (by omega) (by omega) (by omega), pad2 (by omega) (by omega) (by omega)]
    simp only [Option.bind_some]
    rw [if_pos (by rw [sz]; simp [p4]), if_pos (by rw [sz, sz]; simp [p4, p2]), if_pos (by rw [sz, sz]; simp [p4, p2]), if_pos (by rw [sz, sz, sz]; simp [p4, p2])]
    rfl
  · rw [if_neg h, if_neg h]; rfl
theorem fd_r (y m d : Int) {k : Nat} (hk : 10 ≤ k) : pairingref5_FormatDate.f k y m d = some (fd y m d) := by
  rw [← fd_p y m d hk]
  obtain ⟨q, rfl⟩ : ∃ q, k = q + 2 := ⟨k - 2, by omega⟩
  unfold calendar_FormatDate.f pairingref5_FormatDate.f
  rw [vld_p, vld_r]
  simp only [two_eq]
theorem fdl_pd {y m d : Int} (h : vld y m d = true) : pd (fdl y m d) = (y, m, d, 0) := by
  have g := vld_iff.1 h
  have hh := dim_hi y m
  have e1 : nl ((fdl y m d).take 4) 0 = (y, true) := by
    have := nl_p4 (n := y.toNat) (by omega)
    rw [show ((y.toNat : Nat) : Int) = y by omega] at this
    exact this
  have e2 : nl (((fdl y m d).take 7).drop 5) 0 = (m, true) := by
    have := nl_p2 (n := m.toNat) (by omega)
    rw [show ((m.toNat : Nat) : Int) = m by omega] at this
    exact this
  have e3 : nl ((fdl y m d).drop 8) 0 = (d, true) := by
    have := nl_p2 (n := d.toNat) (by omega)
    rw [show ((d.toNat : Nat) : Int) = d by omega] at this
    exact this
  unfold pd pdOk pdy pdm pdd
  rw [e1, e2, e3, fd_l]
  have e4 : ((fdl y m d).getD 4 0) = 45 := rfl
  have e5 : ((fdl y m d).getD 7 0) = 45 := rfl
  rw [e4, e5]
  simp [h]

/-! clock times -/
def pcOk (l : List UInt8) : Bool := decide (l.length = 5) && (decide ((((l.getD 2 0).toNat : Int)) = 58) && ((nl (l.take 2) 0).2 && (nl (l.drop 3) 0).2))
def pc (l : List UInt8) : Int × Int := if pcOk l = true then (if (nl (l.take 2) 0).1 > 23 then (0, 5) else if (nl (l.drop 3) 0).1 > 59 then (0, 5) else (wrap64 (wrap64 (60 * (nl (l.take 2) 0).1) + (nl (l.drop 3) 0).1), 0)) else (0, 1)
theorem five_l {s : ByteArray} (h : (s.size : Int) = 5) : s.data.toList.length = 5 := by rw [← sz]; omega
theorem pc_p {s : ByteArray} {k : Nat} (hk : 20 ≤ k) : calendar_ParseClock.f k s = some (pc s.data.toList) := by
  obtain ⟨q, rfl⟩ : ∃ q, k = q + 20 := ⟨k - 20, by omega⟩
  unfold calendar_ParseClock.f
  have hbad : pcOk s.data.toList = false → calendar_ParseClock.j0 (q + 20) s true = some (pc s.data.toList) := by
    intro h; rw [calendar_ParseClock.j0]; unfold pc; rw [if_pos rfl, if_neg (by rw [h]; decide)]
  by_cases h : (s.size : Int) = 5
  · have hl := five_l h
    rw [if_pos h, if_pos (by omega), show bt s 2 = ((s.data.toList.getD 2 0).toNat : Int) from bt_l s 2]
    by_cases h4 : (((s.data.toList.getD 2 0).toNat : Int)) = 58
    · rw [h4]
      rw [calendar_ParseClock.j0]
      rw [if_neg (by decide), if_pos (by decide), if_pos (by omega), number_p (by rw [sz, ex_l]; simp; omega) (by rw [sz, ex_l]; simp; omega), Option.bind_some, if_pos (by omega), number_p (by rw [sz, ex_l]; simp; omega) (by rw [sz, ex_l]; simp; omega), Option.bind_some]
      rw [ex_l, ex_l, sz, List.take_length, List.drop_zero]
      rw [nv_eq (n := 2) (by simp; omega) (by decide), nv_eq (n := 2) (by simp; omega) (by decide)]
      have e : pcOk s.data.toList = ((nl (s.data.toList.take 2) 0).2 && (nl (s.data.toList.drop 3) 0).2) := by
        unfold pcOk; rw [decide_eq_true hl, decide_eq_true h4]; rfl
      unfold pc
      rw [e]
      generalize nl (s.data.toList.take 2) 0 = a
      generalize nl (s.data.toList.drop 3) 0 = c
      obtain ⟨a, a'⟩ := a
      obtain ⟨c, c'⟩ := c
      simp only [calendar_ParseClock.j1]
      cases a' <;> cases c' <;> first | rfl | (by_cases h1 : a > 23 <;> by_cases h2 : c > 59 <;> simp [h1, h2])
    · rw [show (((s.data.toList.getD 2 0).toNat : Int) != 58) = true from by simpa using h4]
      apply hbad
      unfold pcOk; rw [decide_eq_false h4]; simp
  · rw [if_neg h]
    apply hbad
    unfold pcOk; rw [decide_eq_false (by rw [← sz]; omega)]; rfl
theorem pc_r {s : ByteArray} {k : Nat} (hk : 20 ≤ k) : pairingref5_ParseClock.f k s = some (pc s.data.toList) := by
  obtain ⟨q, rfl⟩ : ∃ q, k = q + 20 := ⟨k - 20, by omega⟩
  unfold pairingref5_ParseClock.f
  have hbad : pcOk s.data.toList = false → pairingref5_ParseClock.j0 (q + 20) s true = some (pc s.data.toList) := by
    intro h; rw [pairingref5_ParseClock.j0]; unfold pc; rw [if_pos rfl, if_neg (by rw [h]; decide)]
  by_cases h : (s.size : Int) = 5
  · have hl := five_l h
    rw [if_pos h, if_pos (by omega), show bt s 2 = ((s.data.toList.getD 2 0).toNat : Int) from bt_l s 2]
    by_cases h4 : (((s.data.toList.getD 2 0).toNat : Int)) = 58
    · rw [h4]
      rw [pairingref5_ParseClock.j0]
      rw [if_neg (by decide), if_pos (by decide), if_pos (by omega), digits_p 2 2 (by rw [sz, ex_l]; simp; omega) (by rw [sz, ex_l]; simp; omega), Option.bind_some, if_pos (by omega), digits_p 2 2 (by rw [sz, ex_l]; simp; omega) (by rw [sz, ex_l]; simp; omega), Option.bind_some]
      rw [ex_l, ex_l, sz, List.take_length, List.drop_zero]
      rw [show dv (s.data.toList.take 2) 2 2 = nl (s.data.toList.take 2) 0 from dv_eq (n := 2) (by simp; omega), show dv (s.data.toList.drop 3) 2 2 = nl (s.data.toList.drop 3) 0 from dv_eq (n := 2) (by simp; omega)]
      have e : pcOk s.data.toList = ((nl (s.data.toList.take 2) 0).2 && (nl (s.data.toList.drop 3) 0).2) := by
        unfold pcOk; rw [decide_eq_true hl, decide_eq_true h4]; rfl
      unfold pc
      rw [e]
      generalize nl (s.data.toList.take 2) 0 = a
      generalize nl (s.data.toList.drop 3) 0 = c
      obtain ⟨a, a'⟩ := a
      obtain ⟨c, c'⟩ := c
      simp only [pairingref5_ParseClock.j1]
      cases a' <;> cases c' <;> first | rfl | (by_cases h1 : a > 23 <;> by_cases h2 : c > 59 <;> simp [h1, h2])
    · rw [show (((s.data.toList.getD 2 0).toNat : Int) != 58) = true from by simpa using h4]
      apply hbad
      unfold pcOk; rw [decide_eq_false h4]; simp
  · rw [if_neg h]
    apply hbad
    unfold pcOk; rw [decide_eq_false (by rw [← sz]; omega)]; rfl
def fcl (n : Int) : List UInt8 := p2 (n / 60).toNat ++ 58 :: p2 (n % 60).toNat
def fc (n : Int) : ByteArray × Int := if 0 ≤ n ∧ n < 1440 then (mk (fcl n), 0) else (mk [], 5)
theorem fc_p (n : Int) {k : Nat} (hk : 10 ≤ k) : calendar_FormatClock.f k n = some (fc n) := by
  obtain ⟨q, rfl⟩ : ∃ q, k = q + 3 := ⟨k - 3, by omega⟩
  unfold calendar_FormatClock.f fc
  by_cases h : 0 ≤ n ∧ n < 1440
  · rw [if_neg (by omega), if_pos h, calendar_FormatClock.j0, if_neg (by simp; omega), tdiv_nn h.1, tmod_nn h.1, w64 (by omega) (by omega)]
    rw [pad2 (by omega) (by omega) (by omega), pad2 (by omega) (by omega) (by omega)]
    simp only [Option.bind_some]
    rw [if_pos (by rw [sz]; simp [p2]), if_pos (by rw [sz, sz]; simp [p2])]
    rfl
  · rw [if_neg h]
    split
    · rw [calendar_FormatClock.j0, if_pos rfl]; rfl
    · rw [calendar_FormatClock.j0, if_pos (by simp; omega)]; rfl
theorem fc_r (n : Int) {k : Nat} (hk : 10 ≤ k) : pairingref5_FormatClock.f k n = some (fc n) := by
  rw [← fc_p n hk]
  obtain ⟨q, rfl⟩ : ∃ q, k = q + 3 := ⟨k - 3, by omega⟩
  unfold calendar_FormatClock.f pairingref5_FormatClock.f
  rw [show decide (n > 1439) = decide (n ≥ 1440) from decide_eq_decide.2 (by omega)]
  simp only [calendar_FormatClock.j0, pairingref5_FormatClock.j0, two_eq]
theorem fcl_pc {n : Int} (h0 : 0 ≤ n) (h1 : n < 1440) : pc (fcl n) = (n, 0) := by
  have e1 : nl ((fcl n).take 2) 0 = (n / 60, true) := by
    have := nl_p2 (n := (n / 60).toNat) (by omega)
    rw [show (((n / 60).toNat : Nat) : Int) = n / 60 by omega] at this
    exact this
  have e3 : nl ((fcl n).drop 3) 0 = (n % 60, true) := by
    have := nl_p2 (n := (n % 60).toNat) (by omega)
    rw [show (((n % 60).toNat : Nat) : Int) = n % 60 by omega] at this
    exact this
  have e5 : ((fcl n).getD 2 0) = 58 := rfl
  have e6 : (fcl n).length = 5 := rfl
  unfold pc pcOk
  rw [e1, e3, e5, e6]
  rw [if_pos (by rfl), if_neg (by simp only; omega), if_neg (by simp only; omega), w64 (x := 60 * (n / 60)) (by omega) (by omega), w64 (by omega) (by omega)]
  congr 1
  omega
end Go.Proofs.YtdpkemjbiengfaaDoor.Pure
