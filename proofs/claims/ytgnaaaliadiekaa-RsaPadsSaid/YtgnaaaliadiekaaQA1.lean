/- What the program's and the reference's first functions on numbers compute, as plain numbers. -/
import Derived.Test.YtgnaaaliadiekaaBx0
import Derived.Test.YtgnaaaliadiekaaQA0
namespace Go.Proofs.Ytgnaaaliadiekaa.Q
open Go.RowKit Go.Proofs.Ytgnaaaliadiekaa.B Go.Proofs.YtgnaaaliadiekaaW.PrintWords Go.Proofs.YtgnaaaliadiekaaW.PrintLast Go.Proofs.YtgnaaaliadiekaaW.PrintMore
set_option linter.unusedVariables false

theorem w64 {x : Int} (h0 : -9223372036854775808 ≤ x) (h1 : x ≤ 9223372036854775807) : wrap64 x = x := by unfold wrap64; omega
theorem wu64 {x : Int} (h0 : 0 ≤ x) (h1 : x < 18446744073709551616) : IntKind.u64.wrap x = x := by
  show x % 18446744073709551616 = x
  omega
def vl (l : List Int) : Nat := val 18446744073709551616 l
def dg (n : Nat) : List Int := digs 18446744073709551616 n
def vd (l : List Int) : Nat := val 65536 l
def dd (n : Nat) : List Int := digs 65536 n
abbrev L64 (l : List Int) : Prop := Dig 18446744073709551616 l
abbrev L16 (l : List Int) : Prop := Dig 65536 l
theorem dg_L (n : Nat) : L64 (dg n) := digs_Dig (by omega) n
theorem dd_L (n : Nat) : L16 (dd n) := digs_Dig (by omega) n
theorem vl_dg (n : Nat) : vl (dg n) = n := val_digs (by omega) n
theorem vd_dd (n : Nat) : vd (dd n) = n := val_digs (by omega) n
theorem dg_len {n k : Nat} : (dg n).length ≤ k ↔ n < 18446744073709551616 ^ k := digs_length_lt (by omega)
theorem dd_len {n k : Nat} : (dd n).length ≤ k ↔ n < 65536 ^ k := digs_length_lt (by omega)
theorem rd_getD (l : List Int) (i : Nat) : rd l (i : Int) = l.getD i 0 := by simp [rd]
theorem Ev.same {α : Type} {g : Nat → Option α} {r r' : α} (h : Ev g r) (e : r = r') : Ev g r' := e ▸ h

/-- How a number stands to another one. -/
def cmp3 (a b : Nat) : Int := if a < b then -1 else if b < a then 1 else 0
theorem pad_val (B : Nat) (l : List Int) (m : Nat) : ∀ i : Nat, i ≤ m → val B ((List.range i).map fun j => l.getD j 0) + B ^ i * val B (l.drop i) = val B l
  | 0, _ => by simp [val]
  | i + 1, hi => by
    have ih := pad_val B l m i (by omega)
    rw [List.range_succ, List.map_append, val_append]
    simp only [List.map_cons, List.map_nil, List.length_map, List.length_range, val]
    by_cases h : i < l.length
    · rw [val_drop B l i h] at ih
      rw [Nat.pow_succ, Nat.mul_assoc, Nat.add_assoc, ← Nat.mul_add]
      rw [Nat.mul_zero, Nat.add_zero]
      exact ih
    · rw [List.drop_eq_nil_of_le (by omega)] at ih ⊢
      rw [List.getD_eq_getElem?_getD, List.getElem?_eq_none (by omega)]
      simp only [val] at ih ⊢
      simpa using ih
/-- the number of the limbs below i -/
def low (B : Nat) (l : List Int) : Nat → Nat
  | 0 => 0
  | i + 1 => low B l i + B ^ i * (l.getD i 0).toNat
theorem low_lt {B : Nat} (hB : 0 < B) {l : List Int} (h : Dig B l) : ∀ i, low B l i < B ^ i
  | 0 => by simp [low]
  | i + 1 => by
    have ih := low_lt hB h i
    have h1 := Dig.getD hB h i
    simp only [low, Nat.pow_succ]
    have h2 : (l.getD i 0).toNat + 1 ≤ B := by omega
    have h3 : B ^ i * ((l.getD i 0).toNat + 1) ≤ B ^ i * B := Nat.mul_le_mul_left _ h2
    rw [Nat.mul_add, Nat.mul_one] at h3
    omega
theorem low_val (B : Nat) (l : List Int) : ∀ i, low B l i + B ^ i * val B (l.drop i) = val B l
  | 0 => by simp [low]
  | i + 1 => by
    have ih := low_val B l i
    simp only [low]
    by_cases h : i < l.length
    · rw [val_drop B l i h] at ih
      rw [Nat.pow_succ, Nat.mul_assoc, Nat.add_assoc, ← Nat.mul_add]
      exact ih
    · rw [List.drop_eq_nil_of_le (by omega)] at ih ⊢
      rw [List.getD_eq_getElem?_getD, List.getElem?_eq_none (by omega)]
      simp only [val] at ih ⊢
      simpa using ih
theorem low_all (B : Nat) (l : List Int) {i : Nat} (h : l.length ≤ i) : low B l i = val B l := by
  have e := low_val B l i
  rw [List.drop_eq_nil_of_le h] at e
  simpa [val] using e
theorem low_take (B : Nat) (l : List Int) (i : Nat) (h : i ≤ l.length) : low B l i = val B (l.take i) := by
  have e := low_val B l i
  have e2 := val_take_drop B l i h
  omega
theorem cmp3_step {B x y p q n : Nat} (hp : p < n) (hq : q < n) : (x < y → cmp3 (p + n * x) (q + n * y) = -1) ∧ (y < x → cmp3 (p + n * x) (q + n * y) = 1) ∧ (x = y → cmp3 (p + n * x) (q + n * y) = cmp3 p q) := by
  refine ⟨fun h => ?_, fun h => ?_, fun h => ?_⟩
  · have h1 : n * (x + 1) ≤ n * y := Nat.mul_le_mul_left _ h
    rw [Nat.mul_add, Nat.mul_one] at h1
    unfold cmp3
    rw [if_pos (by omega)]
  · have h1 : n * (y + 1) ≤ n * x := Nat.mul_le_mul_left _ h
    rw [Nat.mul_add, Nat.mul_one] at h1
    unfold cmp3
    rw [if_neg (by omega), if_pos (by omega)]
  · subst h
    unfold cmp3
    simp only [Nat.add_lt_add_iff_right]
theorem mx_nat (a b : Nat) : mx (a : Int) (b : Int) = ((max a b : Nat) : Int) := by unfold mx; split <;> omega
theorem len_lt_dd {m n : Nat} (h : (dd m).length < (dd n).length) : m < n := by
  rcases Nat.lt_or_ge m n with h1 | h1
  · exact h1
  · have h2 : n < 65536 ^ (dd m).length := Nat.lt_of_le_of_lt h1 (dd_len.1 (Nat.le_refl _))
    have h3 := dd_len.2 h2
    omega
end Go.Proofs.Ytgnaaaliadiekaa.Q
