/- The document's numbers multiplied and divided by powers of 2. -/
import Derived.Test.YtbnbofflnpppfaaBx0
import Derived.Test.YtbnbofflnpppfaaBx15
import Derived.Test.YtbnbofflnpppfaaBx3
import Derived.Test.YtbnbofflnpppfaaQA11
namespace Go.Proofs.Ytbnbofflnpppfaa.Q
open Go.RowKit Go.Proofs.Ytbnbofflnpppfaa.B Go.Proofs.YtbnbofflnpppfaaW.PrintWords Go.Proofs.YtbnbofflnpppfaaW.PrintLast Go.Proofs.YtbnbofflnpppfaaW.PrintMore
set_option linter.unusedVariables false
set_option linter.unusedSimpArgs false

theorem shl_one : ∀ r : Nat, r < 16 → shl .i64 1 (r : Int) = ((2 ^ r : Nat) : Int) := by decide
theorem val_drop_div {B : Nat} (hB : 0 < B) {a : List Int} (hA : Dig B a) (q : Nat) (hq : q ≤ a.length) : val B (a.drop q) = val B a / B ^ q := by
  have e := val_take_drop B a q hq
  have h : val B (a.take q) < B ^ q := by
    have := val_lt hB (Dig.take hA q)
    rw [List.length_take, Nat.min_eq_left hq] at this
    exact this
  rw [e, Nat.add_mul_div_left _ _ (Nat.pow_pos hB), Nat.div_eq_of_lt h, Nat.zero_add]
theorem by_consts (n : Nat) (h : n < 4611686018427387904) : wrap64 (Int.tdiv (n : Int) 16) = ((n / 16 : Nat) : Int) ∧ wrap64 (((n / 16 : Nat) : Int) + 1) = ((n / 16 + 1 : Nat) : Int) ∧ Int.tmod (n : Int) 16 = ((n % 16 : Nat) : Int) ∧ n % 16 < 16 := by
  refine ⟨?_, w64 (by omega) (by omega), tmod_nat _ 16, Nat.mod_lt _ (by decide)⟩
  rw [show Int.tdiv (n : Int) 16 = ((n / 16 : Nat) : Int) from tdiv_nat _ 16]
  exact w64 (by omega) (by omega)
theorem pow_lt16 (r : Nat) (h : r < 16) : 2 ^ r < 65536 ∧ 0 < 2 ^ r := by
  have : 2 ^ r ≤ 2 ^ 15 := Nat.pow_le_pow_right (by decide) (Nat.le_of_lt_succ h)
  exact ⟨Nat.lt_of_le_of_lt this (by decide), Nat.two_pow_pos r⟩
theorem pow16_split (n : Nat) : 2 ^ n = 65536 ^ (n / 16) * 2 ^ (n % 16) := by
  rw [pow16, ← Nat.pow_add, Nat.div_add_mod]
theorem rTwice_ev (m n : Nat) (hm : (dd m).length < 1073741824) (hn : n < 1073741824) : Ev (fun k => latchkeyref01_Twice.f k (dd m) (n : Int)) (dd (m * 2 ^ n)) := by
  obtain ⟨e1, e2, e3, e4⟩ := by_consts n (by omega)
  obtain ⟨p1, p2⟩ := pow_lt16 _ e4
  unfold latchkeyref01_Twice.f
  simp only [e1, e2, e3, shl_one _ e4, Option.bind_some, Int.toNat_natCast, List.length_replicate]
  have hP : L16 ((List.replicate (n / 16 + 1) 0).set (n / 16) ((2 ^ (n % 16) : Nat) : Int)) := Dig.set (Dig.zeros _ _ (by decide)) (Int.natCast_nonneg _) (Int.ofNat_lt.2 p1)
  have hv : vd ((List.replicate (n / 16 + 1) 0).set (n / 16) ((2 ^ (n % 16) : Nat) : Int)) = 2 ^ n := by
    have e := set_value (B := 65536) (List.replicate (n / 16 + 1) 0) (n / 16) (2 ^ (n % 16)) 0 (by simp) (by simp [List.getD])
    rw [val_zeros, Nat.mul_zero, Nat.zero_add, Nat.add_zero] at e
    exact e.trans (pow16_split n).symm
  refine Ev.congr (fun k => (if_pos (Int.natCast_nonneg _)).trans ((if_pos (by omega)).trans ((if_pos (Int.natCast_nonneg _)).trans ((if_pos (Int.natCast_nonneg _)).trans (if_pos (by omega)))))) ?_
  have h := rMul_ev' (dd_L m) hP (by omega) (by simp; omega)
  rw [vd_dd, hv] at h
  exact Ev.bind h (Ev.now _)
theorem rHalf_ev (m n : Nat) (hm : (dd m).length < 1073741824) (hn : n < 4611686018427387904) : Ev (fun k => latchkeyref01_Half.f k (dd m) (n : Int)) (dd (m / 2 ^ n)) := by
  obtain ⟨e1, e2, e3, e4⟩ := by_consts n hn
  obtain ⟨p1, p2⟩ := pow_lt16 _ e4
  unfold latchkeyref01_Half.f
  simp only [e1, e3, shl_one _ e4, Int.toNat_natCast]
  by_cases h : (dd m).length ≤ n / 16
  · refine Ev.congr (fun k => if_pos (Int.ofNat_le.2 h)) (Ev.same (Ev.now _) ?_)
    have h1 : m < 2 ^ n := by
      refine Nat.lt_of_lt_of_le (dd_len.1 (Nat.le_refl _)) ?_
      rw [pow16]
      exact Nat.pow_le_pow_right (by decide) (by omega)
    rw [Nat.div_eq_of_lt h1]
    exact (digs_zero _).symm
  · have hle : n / 16 ≤ (dd m).length := Nat.le_of_lt (Nat.lt_of_not_le h)
    refine Ev.congr (fun k => (if_neg (fun h2 => h (Int.ofNat_le.1 h2))).trans (if_pos (Int.natCast_nonneg _))) ?_
    refine Ev.bind (Small_ev (2 ^ (n % 16)) (Nat.lt_trans p1 (by decide))) ?_
    refine Ev.congr (fun k => (if_pos (Int.natCast_nonneg _)).trans (if_pos (Int.ofNat_le.2 hle))) ?_
    have hd := rDiv_ev' ((dd m).drop (n / 16)) (Dig.drop (dd_L m) _) (by rw [List.length_drop]; omega) (2 ^ (n % 16)) p2 (by have := dd_len63 (n := 2 ^ (n % 16)) (Nat.lt_trans p1 (by decide)); omega)
    refine Ev.bind hd (Ev.same (Ev.now _) ?_)
    show dd (vd ((dd m).drop (n / 16)) / 2 ^ (n % 16)) = _
    unfold vd
    rw [val_drop_div (by decide) (dd_L m) _ hle, show val 65536 (dd m) = m from vd_dd m, Nat.div_div_eq_div_mul, ← pow16_split]
theorem Shift_neg_ev {a : List Int} (hA : L64 a) (ha : a.length < 1099511627776) (m : Nat) (hm : m < 1099511627776) : Ev (fun k => nat_Shift.f k a (-(m : Int))) (dg (vl a * 2 ^ m)) := by
  rcases Nat.eq_zero_or_pos m with h0 | h0
  · subst h0
    have h := Shift_down_ev hA ha 0 (by decide)
    rw [Nat.pow_zero, Nat.div_one] at h
    rw [Nat.pow_zero, Nat.mul_one]
    exact h
  · exact Shift_up_ev hA ha m hm h0
end Go.Proofs.Ytbnbofflnpppfaa.Q
