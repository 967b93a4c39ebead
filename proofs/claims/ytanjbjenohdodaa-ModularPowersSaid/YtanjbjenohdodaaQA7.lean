/- Differences: the program's and the reference's; a small number's digits. -/
import Derived.Test.YtanjbjenohdodaaBx0
import Derived.Test.YtanjbjenohdodaaBx6
import Derived.Test.YtanjbjenohdodaaQA6
import Derived.Test.YtanjbjenohdodaaQD1
namespace Go.Proofs.Ytanjbjenohdodaa.Q
open Go.RowKit Go.Proofs.Ytanjbjenohdodaa.B Go.Proofs.YtanjbjenohdodaaW.PrintWords Go.Proofs.YtanjbjenohdodaaW.PrintLast Go.Proofs.YtanjbjenohdodaaW.PrintMore
set_option linter.unusedVariables false

theorem sub_step {P B X Y u s y c b' la lb : Nat} (h1 : X + P * u = Y + P * s) (h2 : s + y + c = u + B * b') (h3 : Y + lb = la + P * c) : X + (lb + P * y) = la + P * B * b' := by
  have h4 := congrArg (P * ·) h2
  simp only [Nat.mul_add] at h4
  rw [Nat.mul_assoc]
  omega
theorem less_loop (A : Nat) (b : List Int) (n : Nat) (hB : L64 b) (hn : n < 1099511627776) (hb : b.length < 17592186044416) (hba : vl b ≤ A) (hA : A < 18446744073709551616 ^ n) :
    ∀ (d i c : Nat) (x : List Int), i + d = n → x.length = n → L64 x → c ≤ 1 → vl x + low 18446744073709551616 b i = A + 18446744073709551616 ^ i * c →
    ∃ r, Ev (fun k => nat_less.l0 k x b (c : Int) (n : Int) (i : Int)) r ∧ L64 r ∧ r.length = n ∧ vl r = A - vl b := by
  intro d
  induction d with
  | zero =>
    intro i c x hd hx hX hc hv
    have hi : i = n := by omega
    subst hi
    refine ⟨x, Ev.step (f := fun _ => some x) (fun k => ?_) (Ev.now _), hX, hx, ?_⟩
    · simp only [nat_less.l0]
      rw [if_neg (by omega)]
    · have e := low_val 18446744073709551616 b i
      have hx2 : vl x < 18446744073709551616 ^ i := by have := val_lt (B := 18446744073709551616) (by omega) hX; rw [hx] at this; exact this
      have hz : val 18446744073709551616 (b.drop i) = 0 := by
        rcases Nat.eq_zero_or_pos (val 18446744073709551616 (b.drop i)) with h0 | h0
        · exact h0
        · have := Nat.mul_le_mul_left (18446744073709551616 ^ i) h0
          unfold vl at hba
          omega
      rw [hz, Nat.mul_zero, Nat.add_zero] at e
      unfold vl at hba hv hx2 ⊢
      rcases Nat.eq_zero_or_pos c with h0 | h0
      · subst h0
        omega
      · have h1 : c = 1 := by omega
        subst h1
        omega
  | succ d IH =>
    intro i c x hd hx hX hc hv
    have HV := Aside0.mk hv
    have HBA := Aside0.mk hba
    have HA := Aside0.mk hA
    clear hv hba hA
    obtain ⟨u, hu, hu2⟩ := getD_nat (by omega) hX i
    obtain ⟨y, hy, hy2⟩ := getD_nat (by omega) hB i
    obtain ⟨d1, d2, d3⟩ := sub_digit hu2 hy2 hc
    have es := set_value (B := 18446744073709551616) x i ((u + 18446744073709551616 - y - c) % 18446744073709551616) u (by omega) hu
    obtain ⟨r, g1, g2, g3, g4⟩ := IH (i + 1) (if u < y + c then 1 else 0) (x.set i (((u + 18446744073709551616 - y - c) % 18446744073709551616 : Nat) : Int)) (by omega) (by rw [List.length_set]; exact hx) (Dig.set hX (by omega) (by omega)) d3 (by
      simp only [low]
      rw [hy, Int.toNat_natCast, Nat.pow_succ]
      exact sub_step es d1 HV.out)
    refine ⟨r, Ev.step (fun k => ?_) g1, g2, g3, g4⟩
    simp only [nat_less.l0]
    rw [if_pos (by omega), if_pos (by omega), if_pos (by omega), limb_some hb, hy, rd_getD, hu, Option.bind_some, Int.toNat_natCast, if_pos hc, subs_nat, subc_nat, w64 (by omega) (by omega)]
    rfl
theorem less_ev {a b : List Int} (hA : L64 a) (hB : L64 b) (ha : a.length < 1099511627776) (hb : b.length < 17592186044416) (h : vl b ≤ vl a) : ∃ r, Ev (fun k => nat_less.f k a b) r ∧ L64 r ∧ r.length = a.length ∧ vl r = vl a - vl b := by
  unfold nat_less.f
  exact less_loop (vl a) b a.length hB ha hb h (vl_lt hA) a.length 0 0 a (by omega) rfl hA (by omega) (by simp [low])
theorem Sub_ev {a b : List Int} (hA : L64 a) (hB : L64 b) (ha : a.length < 1099511627776) (hb : b.length < 1099511627776) (h : vl b ≤ vl a) : Ev (fun k => nat_Sub.f k a b) (dg (vl a - vl b), true) := by
  unfold nat_Sub.f
  refine Ev.bind (Cmp_ev hA hB (by omega) (by omega)) ?_
  have hc : ¬ cmp3 (vl a) (vl b) < 0 := by unfold cmp3; rw [if_neg (by omega)]; split <;> omega
  refine Ev.congr (fun k => if_neg hc) ?_
  rw [clone_ev (by omega)]
  obtain ⟨r, g1, g2, g3, g4⟩ := less_ev hA hB ha (by omega) h
  refine Ev.congr (fun k => Option.bind_some _ _) ?_
  refine Ev.bind g1 ?_
  refine Ev.bind (Norm_ev g2 (by omega)) ?_
  rw [g4]
  exact Ev.now _
theorem Sub_no {a b : List Int} (hA : L64 a) (hB : L64 b) (ha : a.length < 1099511627776) (hb : b.length < 1099511627776) (h : vl a < vl b) : Ev (fun k => nat_Sub.f k a b) ([], false) := by
  unfold nat_Sub.f
  refine Ev.bind (Cmp_ev hA hB (by omega) (by omega)) ?_
  have hc : cmp3 (vl a) (vl b) < 0 := by unfold cmp3; rw [if_pos h]; omega
  exact Ev.congr (fun k => if_pos hc) (Ev.now _)
theorem rsub_digit {u y c : Nat} (hu : u < 65536) (hy : y < 65536) (hc : c ≤ 1) (z : Nat) (hz : z = (u + 65536 - y - c) % 65536) : z + y + c = u + 65536 * (if u < y + c then 1 else 0) ∧ z < 65536 ∧ (if u < y + c then 1 else 0) ≤ 1 ∧
    ((u : Int) - c - y < 0 ↔ u < y + c) ∧ (u < y + c → wrap64 (wrap64 (wrap64 ((u : Int) - c) - y) + 65536) = (z : Int)) ∧ (¬ u < y + c → wrap64 (wrap64 ((u : Int) - c) - y) = (z : Int)) ∧ wrap64 (wrap64 ((u : Int) - c) - y) = (u : Int) - c - y := by
  subst hz
  have h1 : wrap64 ((u : Int) - c) = (u : Int) - c := w64 (by omega) (by omega)
  rw [h1]
  have h2 : wrap64 ((u : Int) - c - y) = (u : Int) - c - y := w64 (by omega) (by omega)
  rw [h2]
  refine ⟨by split <;> omega, by omega, by split <;> omega, by omega, fun h => ?_, fun h => by omega, rfl⟩
  rw [w64 (by omega) (by omega)]
  omega
theorem dd_len63 {n : Nat} (h : n < 9223372036854775808) : (dd n).length ≤ 4 := dd_len.2 (by omega)
end Go.Proofs.Ytanjbjenohdodaa.Q
