/- More of what the first functions compute: a number's digits of 16 bits, its limbs again, sameness, lengths. -/
import Derived.Test.YtgnaaaliadiekaaBx0
import Derived.Test.YtgnaaaliadiekaaBx6
import Derived.Test.YtgnaaaliadiekaaQA1
import Derived.Lib.BitFns
namespace Go.Proofs.Ytgnaaaliadiekaa.Q
open Go.RowKit Go.Proofs.Ytgnaaaliadiekaa.B Go.Proofs.YtgnaaaliadiekaaW.PrintWords Go.Proofs.YtgnaaaliadiekaaW.PrintLast Go.Proofs.YtgnaaaliadiekaaW.PrintMore
set_option linter.unusedVariables false

theorem tmod_nat (a b : Nat) : Int.tmod (a : Int) (b : Int) = ((a % b : Nat) : Int) := rfl
theorem tdiv_nat (a b : Nat) : Int.tdiv (a : Int) (b : Int) = ((a / b : Nat) : Int) := rfl
theorem rOf_inner (l out : List Int) (i : Int) (r : List Int) (v : Nat) (hv : v < 18446744073709551616) (j : Nat) (hj : j < 4) (ho : out.length < 17592186044416) (h : Ev (fun k => latchkeyref01_Of.l1 k l (out ++ [((v % 65536 : Nat) : Int)]) i ((v / 65536 : Nat) : Int) ((j + 1 : Nat) : Int)) r) :
    Ev (fun k => latchkeyref01_Of.l1 k l out i (v : Int) (j : Int)) r := by
  refine Ev.step (fun k => ?_) h
  simp only [latchkeyref01_Of.l1]
  rw [if_pos (by omega), if_pos ho]
  have e1 : Int.tmod (v : Int) 65536 = ((v % 65536 : Nat) : Int) := tmod_nat v 65536
  have e2 : Int.tdiv (v : Int) 65536 = ((v / 65536 : Nat) : Int) := tdiv_nat v 65536
  rw [e1, e2, w64 (by omega) (by omega), wu64 (by omega) (by omega), w64 (by omega) (by omega)]
  rfl
theorem val4 (v : Nat) (hv : v < 18446744073709551616) : val 65536 [((v % 65536 : Nat) : Int), ((v / 65536 % 65536 : Nat) : Int), ((v / 65536 / 65536 % 65536 : Nat) : Int), ((v / 65536 / 65536 / 65536 % 65536 : Nat) : Int)] = v := by
  simp only [val, Int.toNat_natCast]
  omega
theorem dig4 (v : Nat) : L16 [((v % 65536 : Nat) : Int), ((v / 65536 % 65536 : Nat) : Int), ((v / 65536 / 65536 % 65536 : Nat) : Int), ((v / 65536 / 65536 / 65536 % 65536 : Nat) : Int)] :=
  Dig.cons (by omega) (by omega) (Dig.cons (by omega) (by omega) (Dig.cons (by omega) (by omega) (Dig.cons (by omega) (by omega) (Dig.nil _))))
theorem pow_four (q : Nat) : 65536 ^ (4 * q) = 18446744073709551616 ^ q := by rw [Nat.pow_mul]
theorem rOf_loop (l : List Int) (hL : L64 l) (hn : l.length < 1099511627776) : ∀ (d i : Nat) (out : List Int), i + d = l.length → out.length = 4 * i → L16 out → vd out = low 18446744073709551616 l i → Ev (fun k => latchkeyref01_Of.l0 k l out (i : Int)) (dd (vl l))
  | 0, i, out, hd, ho, hO, hv => by
    refine Ev.step (f := fun k => (latchkeyref01_trim.f k out).bind fun t => some t) (fun k => ?_) ?_
    · simp only [latchkeyref01_Of.l0]
      rw [if_neg (by omega)]
    · refine Ev.bind (trim_ev hO (by omega)) (Ev.same (Ev.now _) ?_)
      rw [hv, low_all _ l (by omega)]
      rfl
  | d + 1, i, out, hd, ho, hO, hv => by
    have g := Dig.getD (by omega) hL i
    obtain ⟨v, hv1⟩ := Int.eq_ofNat_of_zero_le g.1
    have hv2 : v < 18446744073709551616 := by omega
    refine Ev.step (f := fun k => latchkeyref01_Of.l1 k l out (i : Int) (v : Int) 0) (fun k => ?_) ?_
    · simp only [latchkeyref01_Of.l0]
      rw [if_pos (by omega), if_pos (by omega), rd_getD, hv1]
    · refine rOf_inner l out i _ v hv2 0 (by omega) (by omega) ?_
      refine rOf_inner l _ i _ (v / 65536) (by omega) 1 (by omega) (by simp; omega) ?_
      refine rOf_inner l _ i _ (v / 65536 / 65536) (by omega) 2 (by omega) (by simp; omega) ?_
      refine rOf_inner l _ i _ (v / 65536 / 65536 / 65536) (by omega) 3 (by omega) (by simp; omega) ?_
      refine Ev.step (f := fun k => latchkeyref01_Of.l0 k l (out ++ [((v % 65536 : Nat) : Int), ((v / 65536 % 65536 : Nat) : Int), ((v / 65536 / 65536 % 65536 : Nat) : Int), ((v / 65536 / 65536 / 65536 % 65536 : Nat) : Int)]) ((i + 1 : Nat) : Int)) (fun k => ?_) (rOf_loop l hL hn d (i + 1) (out ++ [((v % 65536 : Nat) : Int), ((v / 65536 % 65536 : Nat) : Int), ((v / 65536 / 65536 % 65536 : Nat) : Int), ((v / 65536 / 65536 / 65536 % 65536 : Nat) : Int)]) (by omega) ?_ ?_ ?_)
      · simp only [latchkeyref01_Of.l1]
        rw [if_neg (by omega), w64 (by omega) (by omega)]
        simp only [List.append_assoc, List.cons_append, List.nil_append]
        rfl
      · simp
        omega
      · exact Dig.append hO (dig4 v)
      · have e := val4 v hv2
        unfold vd at hv ⊢
        rw [val_append, e, hv, ho, pow_four]
        simp only [low]
        rw [hv1]
        rfl
theorem rOf_ev {l : List Int} (hL : L64 l) (hn : l.length < 1099511627776) : Ev (fun k => latchkeyref01_Of.f k l) (dd (vl l)) :=
  rOf_loop l hL hn l.length 0 [] (by omega) rfl (Dig.nil _) rfl
/-- What is great enough for its length has no 0 above. -/
theorem trim_of_le {B : Nat} (hB : 0 < B) {l : List Int} (h : Dig B l) (hl : B ^ (l.length - 1) ≤ val B l) : Trim l := by
  intro x hx h0
  subst h0
  obtain ⟨m, rfl⟩ := List.getLast?_eq_some_iff.1 hx
  have h1 := val_lt hB (Dig.left h)
  rw [val_append] at hl
  simp [val] at hl
  omega
end Go.Proofs.Ytgnaaaliadiekaa.Q
