/- Differences: the program's and the reference's; a small number's digits. -/
import Derived.Test.YtgnaaaliadiekaaBx0
import Derived.Test.YtgnaaaliadiekaaBx52
import Derived.Test.YtgnaaaliadiekaaQA6
import Derived.Test.YtgnaaaliadiekaaQD1
namespace Go.Proofs.Ytgnaaaliadiekaa.Q
open Go.RowKit Go.Proofs.Ytgnaaaliadiekaa.B Go.Proofs.YtgnaaaliadiekaaW.PrintWords Go.Proofs.YtgnaaaliadiekaaW.PrintLast Go.Proofs.YtgnaaaliadiekaaW.PrintMore
set_option linter.unusedVariables false

theorem sub_step {P B X Y u s y c b' la lb : Nat} (h1 : X + P * u = Y + P * s) (h2 : s + y + c = u + B * b') (h3 : Y + lb = la + P * c) : X + (lb + P * y) = la + P * B * b' := by
  have h4 := congrArg (P * ·) h2
  simp only [Nat.mul_add] at h4
  rw [Nat.mul_assoc]
  omega
theorem rsub_digit {u y c : Nat} (hu : u < 65536) (hy : y < 65536) (hc : c ≤ 1) (z : Nat) (hz : z = (u + 65536 - y - c) % 65536) : z + y + c = u + 65536 * (if u < y + c then 1 else 0) ∧ z < 65536 ∧ (if u < y + c then 1 else 0) ≤ 1 ∧
    ((u : Int) - c - y < 0 ↔ u < y + c) ∧ (u < y + c → wrap64 (wrap64 (wrap64 ((u : Int) - c) - y) + 65536) = (z : Int)) ∧ (¬ u < y + c → wrap64 (wrap64 ((u : Int) - c) - y) = (z : Int)) ∧ wrap64 (wrap64 ((u : Int) - c) - y) = (u : Int) - c - y := by
  subst hz
  have h1 : wrap64 ((u : Int) - c) = (u : Int) - c := w64 (by omega) (by omega)
  rw [h1]
  have h2 : wrap64 ((u : Int) - c - y) = (u : Int) - c - y := w64 (by omega) (by omega)
  rw [h2]
  refine ⟨by split <;> omega, by omega, by split <;> omega, by omega, fun h => ?_, fun h => by omega, rfl⟩
  rw [w64 (by omega) (by omega)]
  omega
theorem Small_loop (n : Nat) : ∀ (out : List Int), out.length + n < 9223372036854775808 → (dd n).length + out.length < 17592186044416 → Ev (fun k => latchkeyref01_Small.l0 k (n : Int) out) (out ++ dd n) := by
  induction n using Nat.strongRecOn with
  | _ n ih =>
    intro out h hl
    by_cases h0 : n = 0
    · subst h0
      refine Ev.step (f := fun _ => some out) (fun k => ?_) (Ev.same (Ev.now _) ?_)
      · simp only [latchkeyref01_Small.l0]
        rw [if_neg (by omega)]
      · rw [show dd 0 = [] from digs_zero _, List.append_nil]
    · have e : dd n = ((n % 65536 : Nat) : Int) :: dd (n / 65536) := digs_pos (by omega) h0
      rw [e, List.length_cons] at hl
      refine Ev.step (f := fun k => latchkeyref01_Small.l0 k ((n / 65536 : Nat) : Int) (out ++ [((n % 65536 : Nat) : Int)])) (fun k => ?_) (Ev.same (ih (n / 65536) (by omega) (out ++ [((n % 65536 : Nat) : Int)]) (by simp; omega) (by simp; omega)) ?_)
      · simp only [latchkeyref01_Small.l0]
        rw [if_pos (by omega), if_pos (by omega), show Int.tmod (n : Int) 65536 = ((n % 65536 : Nat) : Int) from tmod_nat n 65536, show Int.tdiv (n : Int) 65536 = ((n / 65536 : Nat) : Int) from tdiv_nat n 65536, w64 (by omega) (by omega)]
      · rw [e, List.append_assoc]
        rfl
theorem dd_len63 {n : Nat} (h : n < 9223372036854775808) : (dd n).length ≤ 4 := dd_len.2 (by omega)
theorem Small_ev (n : Nat) (h : n < 9223372036854775808) : Ev (fun k => latchkeyref01_Small.f k (n : Int)) (dd n) := by
  have hl := dd_len63 h
  exact Small_loop n [] (by simpa using h) (by simp; omega)
end Go.Proofs.Ytgnaaaliadiekaa.Q
