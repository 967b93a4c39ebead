/- More of what the first functions compute: a number's digits of 16 bits, its limbs again, sameness, lengths. -/
import Derived.Test.YtgnaaaliadiekaaBx0
import Derived.Test.YtgnaaaliadiekaaBx13
import Derived.Test.YtgnaaaliadiekaaBx27
import Derived.Test.YtgnaaaliadiekaaBx44
import Derived.Test.YtgnaaaliadiekaaQA1
import Derived.Lib.BitFns
namespace Go.Proofs.Ytgnaaaliadiekaa.Q
open Go.RowKit Go.Proofs.Ytgnaaaliadiekaa.B Go.Proofs.YtgnaaaliadiekaaW.PrintWords Go.Proofs.YtgnaaaliadiekaaW.PrintLast Go.Proofs.YtgnaaaliadiekaaW.PrintMore
set_option linter.unusedVariables false

theorem tmod_nat (a b : Nat) : Int.tmod (a : Int) (b : Int) = ((a % b : Nat) : Int) := rfl
theorem tdiv_nat (a b : Nat) : Int.tdiv (a : Int) (b : Int) = ((a / b : Nat) : Int) := rfl
theorem rOf_inner (l out : List Int) (i : Int) (r : List Int) (v : Nat) (hv : v < 18446744073709551616) (j : Nat) (hj : j < 4) (ho : out.length < 17592186044416) (h : Ev (fun k => latchkeyref01_Of.l1 k l (out ++ [((v % 65536 : Nat) : Int)]) i ((v / 65536 : Nat) : Int) ((j + 1 : Nat) : Int)) r) :
    Ev (fun k => latchkeyref01_Of.l1 k l out i (v : Int) (j : Int)) r := by
  refine Ev.step (fun k => ?_) h
  simp only [latchkeyref01_Of.l1]
  rw [if_pos (by omega), if_pos ho]
  have e1 : Int.tmod (v : Int) 65536 = ((v % 65536 : Nat) : Int) := tmod_nat v 65536
  have e2 : Int.tdiv (v : Int) 65536 = ((v / 65536 : Nat) : Int) := tdiv_nat v 65536
  rw [e1, e2, w64 (by omega) (by omega), wu64 (by omega) (by omega), w64 (by omega) (by omega)]
  rfl
theorem val4 (v : Nat) (hv : v < 18446744073709551616) : val 65536 [((v % 65536 : Nat) : Int), ((v / 65536 % 65536 : Nat) : Int), ((v / 65536 / 65536 % 65536 : Nat) : Int), ((v / 65536 / 65536 / 65536 % 65536 : Nat) : Int)] = v := by
  simp only [val, Int.toNat_natCast]
  omega
theorem dig4 (v : Nat) : L16 [((v % 65536 : Nat) : Int), ((v / 65536 % 65536 : Nat) : Int), ((v / 65536 / 65536 % 65536 : Nat) : Int), ((v / 65536 / 65536 / 65536 % 65536 : Nat) : Int)] :=
  Dig.cons (by omega) (by omega) (Dig.cons (by omega) (by omega) (Dig.cons (by omega) (by omega) (Dig.cons (by omega) (by omega) (Dig.nil _))))
theorem pow_four (q : Nat) : 65536 ^ (4 * q) = 18446744073709551616 ^ q := by rw [Nat.pow_mul]
theorem rOf_loop (l : List Int) (hL : L64 l) (hn : l.length < 1099511627776) : ∀ (d i : Nat) (out : List Int), i + d = l.length → out.length = 4 * i → L16 out → vd out = low 18446744073709551616 l i → Ev (fun k => latchkeyref01_Of.l0 k l out (i : Int)) (dd (vl l))
  | 0, i, out, hd, ho, hO, hv => by
    refine Ev.step (f := fun k => (latchkeyref01_trim.f k out).bind fun t => some t) (fun k => ?_) ?_
    · simp only [latchkeyref01_Of.l0]
      rw [if_neg (by omega)]
    · refine Ev.bind (trim_ev hO (by omega)) (Ev.same (Ev.now _) ?_)
      rw [hv, low_all _ l (by omega)]
      rfl
  | d + 1, i, out, hd, ho, hO, hv => by
    have g := Dig.getD (by omega) hL i
    obtain ⟨v, hv1⟩ := Int.eq_ofNat_of_zero_le g.1
    have hv2 : v < 18446744073709551616 := by omega
    refine Ev.step (f := fun k => latchkeyref01_Of.l1 k l out (i : Int) (v : Int) 0) (fun k => ?_) ?_
    · simp only [latchkeyref01_Of.l0]
      rw [if_pos (by omega), if_pos (by omega), rd_getD, hv1]
    · refine rOf_inner l out i _ v hv2 0 (by omega) (by omega) ?_
      refine rOf_inner l _ i _ (v / 65536) (by omega) 1 (by omega) (by simp; omega) ?_
      refine rOf_inner l _ i _ (v / 65536 / 65536) (by omega) 2 (by omega) (by simp; omega) ?_
      refine rOf_inner l _ i _ (v / 65536 / 65536 / 65536) (by omega) 3 (by omega) (by simp; omega) ?_
      refine Ev.step (f := fun k => latchkeyref01_Of.l0 k l (out ++ [((v % 65536 : Nat) : Int), ((v / 65536 % 65536 : Nat) : Int), ((v / 65536 / 65536 % 65536 : Nat) : Int), ((v / 65536 / 65536 / 65536 % 65536 : Nat) : Int)]) ((i + 1 : Nat) : Int)) (fun k => ?_) (rOf_loop l hL hn d (i + 1) (out ++ [((v % 65536 : Nat) : Int), ((v / 65536 % 65536 : Nat) : Int), ((v / 65536 / 65536 % 65536 : Nat) : Int), ((v / 65536 / 65536 / 65536 % 65536 : Nat) : Int)]) (by omega) ?_ ?_ ?_)
      · simp only [latchkeyref01_Of.l1]
        rw [if_neg (by omega), w64 (by omega) (by omega)]
        simp only [List.append_assoc, List.cons_append, List.nil_append]
        rfl
      · simp
        omega
      · exact Dig.append hO (dig4 v)
      · have e := val4 v hv2
        unfold vd at hv ⊢
        rw [val_append, e, hv, ho, pow_four]
        simp only [low]
        rw [hv1]
        rfl
theorem rOf_ev {l : List Int} (hL : L64 l) (hn : l.length < 1099511627776) : Ev (fun k => latchkeyref01_Of.f k l) (dd (vl l)) :=
  rOf_loop l hL hn l.length 0 [] (by omega) rfl (Dig.nil _) rfl
/-- What is great enough for its length has no 0 above. -/
theorem trim_of_le {B : Nat} (hB : 0 < B) {l : List Int} (h : Dig B l) (hl : B ^ (l.length - 1) ≤ val B l) : Trim l := by
  intro x hx h0
  subst h0
  obtain ⟨m, rfl⟩ := List.getLast?_eq_some_iff.1 hx
  have h1 := val_lt hB (Dig.left h)
  rw [val_append] at hl
  simp [val] at hl
  omega
theorem rNat_inner (l out : List Int) (i : Nat) (r : List Int) (x j : Nat) (hL : L16 l) (hn : l.length < 1099511627776) (hi : i ≤ l.length) (hj : j < 4) (hx : x < 281474976710656)
    (h : Ev (fun k => latchkeyref01_Nat.l1 k l out (i : Int) ((x * 65536 + (l.getD (i + j) 0).toNat : Nat) : Int) ((j : Int) - 1)) r) : Ev (fun k => latchkeyref01_Nat.l1 k l out (i : Int) (x : Int) (j : Int)) r := by
  have g := Dig.getD (by omega) hL (i + j)
  refine Ev.step (fun k => ?_) h
  simp only [latchkeyref01_Nat.l1]
  rw [if_pos (by omega), w64 (x := (i : Int) + (j : Int)) (by omega) (by omega), w64 (x := (j : Int) - 1) (by omega) (by omega)]
  have e : (i : Int) + (j : Int) = ((i + j : Nat) : Int) := by omega
  rw [e, wu64 (x := (x : Int) * 65536) (by omega) (by omega)]
  by_cases hc : i + j < l.length
  · rw [if_pos (by omega), if_pos (by omega), rd_getD, wu64 (x := l.getD (i + j) 0) (by omega) (by omega), wu64 (by omega) (by omega)]
    congr 1
    omega
  · rw [if_neg (by omega)]
    have hz : l.getD (i + j) 0 = 0 := by rw [List.getD_eq_getElem?_getD, List.getElem?_eq_none (by omega)]; rfl
    rw [hz, show ((x * 65536 + (0 : Int).toNat : Nat) : Int) = (x : Int) * 65536 from by omega]
theorem rNat_loop (l : List Int) (hL : L16 l) (ht : Trim l) (hn : l.length < 1099511627776) : ∀ (d q : Nat) (out : List Int), (l.length + 3) / 4 = q + d → out.length = q → L64 out → vl out = low 65536 l (4 * q) → Ev (fun k => latchkeyref01_Nat.l0 k l out ((4 * q : Nat) : Int)) (dg (vd l))
  | 0, q, out, hd, ho, hO, hv => by
    refine Ev.step (f := fun _ => some out) (fun k => ?_) (Ev.same (Ev.now _) ?_)
    · simp only [latchkeyref01_Nat.l0]
      rw [if_neg (by omega)]
    · rw [low_all _ l (by omega)] at hv
      have hv2 : vl out = vd l := hv
      rw [← hv2]
      refine digs_unique (by omega) hO ?_
      by_cases hl : l = []
      · subst hl
        have h0 : q = 0 := by simp at hd; omega
        subst h0
        have h1 : out = [] := List.eq_nil_of_length_eq_zero ho
        subst h1
        exact Trim.nil
      · refine trim_of_le (by omega) hO ?_
        have hp : 0 < l.length := List.length_pos_iff.2 hl
        show 18446744073709551616 ^ (out.length - 1) ≤ vl out
        rw [hv2, ← pow_four, ho]
        have h1 : 65536 ^ (l.length - 1) ≤ vd l := by
          have e := val_take_succ 65536 l (l.length - 1) (by omega)
          rw [Nat.sub_add_cancel hp, List.take_length] at e
          have g := Dig.getD (by omega) hL (l.length - 1)
          have hne : l.getD (l.length - 1) 0 ≠ 0 := ht _ (by rw [List.getLast?_eq_getElem?, List.getD_eq_getElem?_getD, List.getElem?_eq_getElem (by omega)]; rfl)
          have h2 : 65536 ^ (l.length - 1) * 1 ≤ 65536 ^ (l.length - 1) * (l.getD (l.length - 1) 0).toNat := Nat.mul_le_mul_left _ (by omega)
          unfold vd
          omega
        exact Nat.le_trans (Nat.pow_le_pow_right (by omega) (by omega)) h1
  | d + 1, q, out, hd, ho, hO, hv => by
    have g0 := Dig.getD (by omega) hL (4 * q)
    have g1 := Dig.getD (by omega) hL (4 * q + 1)
    have g2 := Dig.getD (by omega) hL (4 * q + 2)
    have g3 := Dig.getD (by omega) hL (4 * q + 3)
    refine Ev.step (f := fun k => latchkeyref01_Nat.l1 k l out ((4 * q : Nat) : Int) ((0 : Nat) : Int) ((3 : Nat) : Int)) (fun k => ?_) ?_
    · simp only [latchkeyref01_Nat.l0]
      rw [if_pos (by omega)]
      rfl
    · refine rNat_inner l out (4 * q) _ 0 3 hL hn (by omega) (by omega) (by omega) ?_
      refine rNat_inner l out (4 * q) _ _ 2 hL hn (by omega) (by omega) (by omega) ?_
      refine rNat_inner l out (4 * q) _ _ 1 hL hn (by omega) (by omega) (by omega) ?_
      refine rNat_inner l out (4 * q) _ _ 0 hL hn (by omega) (by omega) (by omega) ?_
      generalize hX : (((0 * 65536 + (l.getD (4 * q + 3) 0).toNat) * 65536 + (l.getD (4 * q + 2) 0).toNat) * 65536 + (l.getD (4 * q + 1) 0).toNat) * 65536 + (l.getD (4 * q + 0) 0).toNat = X
      rw [show 4 * q + 0 = 4 * q from rfl] at hX
      refine Ev.step (f := fun k => latchkeyref01_Nat.l0 k l (out ++ [(X : Int)]) ((4 * (q + 1) : Nat) : Int)) (fun k => ?_) (rNat_loop l hL ht hn d (q + 1) _ (by omega) ?_ ?_ ?_)
      · simp only [latchkeyref01_Nat.l1]
        rw [if_neg (by omega), if_pos (by omega), w64 (by omega) (by omega)]
        congr 1
      · simp [ho]
      · exact Dig.append hO (Dig.cons (by omega) (by omega) (Dig.nil _))
      · unfold vl at hv ⊢
        rw [val_append, hv, ho, ← pow_four, show 4 * (q + 1) = 4 * q + 1 + 1 + 1 + 1 from by omega]
        simp only [low, val, Int.toNat_natCast, Nat.mul_zero, Nat.add_zero]
        generalize (l.getD (4 * q) 0).toNat = d0 at *
        rw [show 4 * q + 1 + 1 = 4 * q + 2 from rfl, show 4 * q + 2 + 1 = 4 * q + 3 from rfl]
        generalize (l.getD (4 * q + 1) 0).toNat = d1 at *
        generalize (l.getD (4 * q + 2) 0).toNat = d2 at *
        generalize (l.getD (4 * q + 3) 0).toNat = d3 at *
        rw [show 65536 ^ (4 * q + 1) = 65536 ^ (4 * q) * 65536 from Nat.pow_succ .., show 65536 ^ (4 * q + 2) = 65536 ^ (4 * q) * 65536 * 65536 from by rw [Nat.pow_succ, Nat.pow_succ], show 65536 ^ (4 * q + 3) = 65536 ^ (4 * q) * 65536 * 65536 * 65536 from by rw [Nat.pow_succ, Nat.pow_succ, Nat.pow_succ]]
        generalize 65536 ^ (4 * q) = P
        subst hX
        grind
theorem rNat_ev (n : Nat) (hn : (dd n).length < 1099511627776) : Ev (fun k => latchkeyref01_Nat.f k (dd n)) (dg n) := by
  have h := rNat_loop (dd n) (dd_L n) (digs_Trim (by omega) n) hn (((dd n).length + 3) / 4) 0 [] (by omega) rfl (Dig.nil _) rfl
  rw [vd_dd] at h
  exact h
end Go.Proofs.Ytgnaaaliadiekaa.Q
