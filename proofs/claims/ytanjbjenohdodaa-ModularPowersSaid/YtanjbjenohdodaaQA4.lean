/- Sums, differences, products: the program's and the reference's. -/
import Derived.Test.YtanjbjenohdodaaBx0
import Derived.Test.YtanjbjenohdodaaBx1
import Derived.Test.YtanjbjenohdodaaSIntr
import Derived.Test.YtanjbjenohdodaaQA3
namespace Go.Proofs.Ytanjbjenohdodaa.Q
open Go.RowKit Go.Proofs.Ytanjbjenohdodaa.B Go.Proofs.YtanjbjenohdodaaW.PrintWords Go.Proofs.YtanjbjenohdodaaW.PrintLast Go.Proofs.YtanjbjenohdodaaW.PrintMore
set_option linter.unusedVariables false

theorem adds_nat (x y c : Nat) : add64s (x : Int) (y : Int) (c : Int) = (((x + y + c) % 18446744073709551616 : Nat) : Int) := by simp [add64s]
theorem addc_nat (x y c : Nat) : add64c (x : Int) (y : Int) (c : Int) = (((x + y + c) / 18446744073709551616 : Nat) : Int) := by simp [add64c]
theorem getD_nat {B : Nat} (hB : 0 < B) {l : List Int} (h : Dig B l) (i : Nat) : ∃ x : Nat, l.getD i 0 = (x : Int) ∧ x < B := by
  have g := Dig.getD hB h i
  obtain ⟨x, hx⟩ := Int.eq_ofNat_of_zero_le g.1
  exact ⟨x, hx, by have := g.2; rw [hx] at this; exact Int.ofNat_lt.1 this⟩
theorem low_set_ge {B : Nat} (l : List Int) (n : Nat) (x : Int) : ∀ i, i ≤ n → low B (l.set n x) i = low B l i
  | 0, _ => rfl
  | i + 1, h => by
    simp only [low]
    rw [low_set_ge l n x i (by omega), List.getD_eq_getElem?_getD, List.getD_eq_getElem?_getD, List.getElem?_set_ne (by omega)]
theorem getD_set_self (l : List Int) (n : Nat) (x : Int) (h : n < l.length) : (l.set n x).getD n 0 = x := by
  rw [List.getD_eq_getElem?_getD, List.getElem?_set_self h]
  rfl
theorem low_set_at {B : Nat} (l : List Int) (n : Nat) (x : Int) (h : n < l.length) : low B (l.set n x) (n + 1) = low B l n + B ^ n * x.toNat := by
  simp only [low]
  rw [low_set_ge l n x n (Nat.le_refl _), getD_set_self l n x h]
theorem Add_loop (a b : List Int) (hA : L64 a) (hB : L64 b) (ha : a.length < 1099511627776) (hb : b.length < 1099511627776) (n : Nat) (hn : n = max a.length b.length) : ∀ (d i c : Nat) (out : List Int), i + d = n → out.length = n + 1 → L64 out → c ≤ 1 →
    low 18446744073709551616 out i + 18446744073709551616 ^ i * c = low 18446744073709551616 a i + low 18446744073709551616 b i →
    Ev (fun k => nat_Add.l0 k a b (n : Int) out (c : Int) (n : Int) (i : Int)) (dg (vl a + vl b))
  | 0, i, c, out, hd, ho, hO, hc, hv => by
    refine Ev.step (f := fun k => (nat_Norm.f k (out.set n (c : Int))).bind fun t => some t) (fun k => ?_) ?_
    · simp only [nat_Add.l0]
      rw [if_neg (by omega), if_pos (by omega), if_pos (by omega)]
      rfl
    · refine Ev.bind (Norm_ev (Dig.set hO (by omega) (by omega)) (by rw [List.length_set]; omega)) (Ev.same (Ev.now _) ?_)
      have e := low_set_at (B := 18446744073709551616) out n (c : Int) (by omega)
      rw [low_all _ _ (by rw [List.length_set]; omega)] at e
      have hi : i = n := by omega
      subst hi
      rw [low_all _ a (by omega), low_all _ b (by omega)] at hv
      show dg (val 18446744073709551616 _) = _
      rw [e, Int.toNat_natCast, hv]
      rfl
  | d + 1, i, c, out, hd, ho, hO, hc, hv => by
    obtain ⟨x, hx, hx2⟩ := getD_nat (by omega) hA i
    obtain ⟨y, hy, hy2⟩ := getD_nat (by omega) hB i
    refine Ev.step (f := fun k => nat_Add.l0 k a b (n : Int) (out.set i (((x + y + c) % 18446744073709551616 : Nat) : Int)) (((x + y + c) / 18446744073709551616 : Nat) : Int) (n : Int) ((i + 1 : Nat) : Int)) (fun k => ?_)
      (Add_loop a b hA hB ha hb n hn d (i + 1) _ _ (by omega) (by rw [List.length_set]; exact ho) (Dig.set hO (by omega) (by omega)) (by omega) ?_)
    · simp only [nat_Add.l0]
      rw [if_pos (by omega), limb_some (by omega), limb_some (by omega), hx, hy]
      simp only [Option.bind_some, Int.toNat_natCast]
      rw [if_pos hc, if_pos (by omega), if_pos (by omega), adds_nat, addc_nat, w64 (by omega) (by omega)]
      rfl
    · rw [low_set_at out i _ (by omega), Int.toNat_natCast, Nat.pow_succ]
      simp only [low]
      rw [hx, hy, Int.toNat_natCast, Int.toNat_natCast]
      generalize 18446744073709551616 ^ i = P at *
      have h1 := Nat.mod_add_div (x + y + c) 18446744073709551616
      generalize (x + y + c) % 18446744073709551616 = s at *
      generalize (x + y + c) / 18446744073709551616 = t at *
      have h2 := congrArg (P * ·) h1
      simp only [Nat.mul_add] at h2
      rw [Nat.mul_assoc]
      omega
theorem Add_ev {a b : List Int} (hA : L64 a) (hB : L64 b) (ha : a.length < 1099511627776) (hb : b.length < 1099511627776) : Ev (fun k => nat_Add.f k a b) (dg (vl a + vl b)) := by
  unfold nat_Add.f
  simp only [mx_nat]
  rw [w64 (by omega) (by omega)]
  refine Ev.congr (fun k => (if_pos (by omega)).trans (if_pos (by omega))) ?_
  refine Add_loop a b hA hB ha hb (max a.length b.length) rfl (max a.length b.length) 0 0 _ (by omega) ?_ (Dig.zeros _ _ (by omega)) (by omega) rfl
  rw [List.length_replicate]
  omega
/-- The last list, as it stands when a sum of the reference ends. -/
theorem trim_low {B : Nat} (hB : 0 < B) {l : List Int} (h : Dig B l) (ht : Trim l) (hl : l ≠ []) : B ^ (l.length - 1) ≤ val B l := by
  have hp : 0 < l.length := List.length_pos_iff.2 hl
  have e := val_take_succ B l (l.length - 1) (by omega)
  rw [Nat.sub_add_cancel hp, List.take_length] at e
  have g := Dig.getD hB h (l.length - 1)
  have hne : l.getD (l.length - 1) 0 ≠ 0 := ht _ (by rw [List.getLast?_eq_getElem?, List.getD_eq_getElem?_getD, List.getElem?_eq_getElem (by omega)]; rfl)
  have h2 : B ^ (l.length - 1) * 1 ≤ B ^ (l.length - 1) * (l.getD (l.length - 1) 0).toNat := Nat.mul_le_mul_left _ (by omega)
  omega
theorem getD_zero {l : List Int} {i : Nat} (h : l.length ≤ i) : l.getD i 0 = 0 := by
  rw [List.getD_eq_getElem?_getD, List.getElem?_eq_none h]
  rfl
end Go.Proofs.Ytanjbjenohdodaa.Q
