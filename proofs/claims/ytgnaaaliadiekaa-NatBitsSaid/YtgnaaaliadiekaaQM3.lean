/- Powers below a modulus: the bits of a number, from the greatest one on; the code's and the document's. -/
import Derived.Test.YtgnaaaliadiekaaBx0
import Derived.Test.YtgnaaaliadiekaaBx6
import Derived.Test.YtgnaaaliadiekaaQM2
import Derived.Test.YtgnaaaliadiekaaQH1
import Derived.Laws.Bits64b
namespace Go.Proofs.Ytgnaaaliadiekaa.Q
open Go.RowKit Go.Proofs.Ytgnaaaliadiekaa.B Go.Proofs.YtgnaaaliadiekaaW.PrintWords Go.Proofs.YtgnaaaliadiekaaW.PrintLast Go.Proofs.YtgnaaaliadiekaaW.PrintMore
set_option linter.unusedVariables false
set_option linter.unusedSimpArgs false

theorem val_bit {B e : Nat} (hB : B = 2 ^ e) {l : List Int} (h : Dig B l) (q s : Nat) (hs : s < e) : val B l / 2 ^ (e * q + s) % 2 = (l.getD q 0).toNat / 2 ^ s % 2 := by
  have hp : 0 < B := by rw [hB]; exact Nat.two_pow_pos e
  rw [Nat.pow_add, Nat.pow_mul, ← hB, ← Nat.div_div_eq_div_mul]
  by_cases hq : q < l.length
  · rw [← val_drop_div hp h q (Nat.le_of_lt hq), val_drop B l q hq, hB, show 2 ^ e = 2 ^ s * 2 ^ (e - s) from by rw [← Nat.pow_add]; congr 1; omega, Nat.mul_assoc, Nat.add_mul_div_left _ _ (Nat.two_pow_pos s)]
    rw [show e - s = (e - s - 1) + 1 from by omega, Nat.pow_succ, Nat.mul_assoc, Nat.mul_comm (2 ^ (e - s - 1)), Nat.mul_assoc, Nat.add_mul_mod_self_left]
  · rw [List.getD_eq_getElem?_getD, List.getElem?_eq_none (by omega), Nat.div_eq_of_lt (Nat.lt_of_lt_of_le (val_lt hp h) (Nat.pow_le_pow_right hp (by omega)))]
    simp
theorem bitOf_nat {zs : List Int} (hZ : L64 zs) (i : Nat) : bitOf zs i = (vl zs / 2 ^ i % 2 == 1) := by
  have hb := val_bit (B := 18446744073709551616) (e := 64) rfl hZ (i / 64) (i % 64) (Nat.mod_lt _ (by decide))
  rw [Nat.div_add_mod] at hb
  obtain ⟨x, hx, hx2⟩ := getD_nat (by decide) hZ (i / 64)
  unfold bitOf
  rw [show ((i : Int) / 64) = ((i / 64 : Nat) : Int) from rfl, rd_getD, hx, show ((x : Int) / 2 ^ (i % 64)) = ((x / 2 ^ (i % 64) : Nat) : Int) from by simp]
  have h1 := bits_and_u64_nat (x / 2 ^ (i % 64)) 1 (Nat.lt_of_le_of_lt (Nat.div_le_self _ _) hx2) (by decide)
  rw [show ((1 : Nat) : Int) = 1 from rfl] at h1
  rw [h1, Nat.and_one_is_mod]
  unfold vl
  rw [hb, hx, Int.toNat_natCast]
  generalize x / 2 ^ (i % 64) % 2 = b
  rw [Bool.eq_iff_iff, beq_iff_eq, beq_iff_eq]
  omega
theorem Ev_below {α : Type} {g : Nat → Nat → Option α} {r : Nat → α} : ∀ M : Nat, (∀ x, x < M → Ev (g x) (r x)) → ∃ K, ∀ k, K ≤ k → ∀ x, x < M → g x k = some (r x)
  | 0, _ => ⟨0, fun _ _ x hx => absurd hx (Nat.not_lt_zero x)⟩
  | M + 1, h => by
    obtain ⟨K, hK⟩ := Ev_below M (fun x hx => h x (by omega))
    obtain ⟨K2, hK2⟩ := h M (by omega)
    refine ⟨max K K2, fun k hk x hx => ?_⟩
    by_cases e : x = M
    · subst e
      exact hK2 k (by omega)
    · exact hK k (by omega) x (by omega)
/-- one round, as numbers -/
def pstep (A M x : Nat) (b : Bool) : Nat := if b = true then x * x % M * A % M else x * x % M
theorem pstep_lt {A M x : Nat} {b : Bool} (h : 0 < M) : pstep A M x b < M := by
  unfold pstep
  split <;> exact Nat.mod_lt _ h
theorem pow_bit (A M N i : Nat) : pstep A M (A ^ (N / 2 ^ (i + 1)) % M) (N / 2 ^ i % 2 == 1) = A ^ (N / 2 ^ i) % M := by
  have e : N / 2 ^ (i + 1) = N / 2 ^ i / 2 := by rw [Nat.pow_succ, Nat.div_div_eq_div_mul]
  rw [e]
  generalize N / 2 ^ i = n
  have h2 : A ^ (n / 2) % M * (A ^ (n / 2) % M) % M = A ^ (2 * (n / 2)) % M := by rw [← Nat.mul_mod, ← Nat.pow_add, Nat.two_mul]
  unfold pstep
  rw [h2]
  rcases Nat.mod_two_eq_zero_or_one n with h | h
  · rw [if_neg (by rw [h]; decide), show 2 * (n / 2) = n from by omega]
  · rw [if_pos (by rw [h]; rfl), Nat.mod_mul_mod, ← Nat.pow_succ, show (2 * (n / 2)).succ = n from by omega]
theorem rBit_eq (n i : Nat) (hn : (dd n).length < 1073741824) (hi : i < 1152921504606846976) : latchkeyref01_Bit.f (dd n) (i : Int) = some ((n / 2 ^ i % 2 : Nat) : Int) := by
  have hb := val_bit (B := 65536) (e := 16) rfl (dd_L n) (i / 16) (i % 16) (Nat.mod_lt _ (by decide))
  rw [Nat.div_add_mod] at hb
  have hv : val 65536 (dd n) = n := vd_dd n
  rw [hv] at hb
  obtain ⟨x, hx, hx2⟩ := getD_nat (by decide) (dd_L n) (i / 16)
  have e1 : wrap64 (Int.tdiv (i : Int) 16) = ((i / 16 : Nat) : Int) := by
    rw [show Int.tdiv (i : Int) 16 = ((i / 16 : Nat) : Int) from rfl, w64 (by omega) (by omega)]
  have e2 : Int.tmod (i : Int) 16 = ((i % 16 : Nat) : Int) := rfl
  unfold latchkeyref01_Bit.f
  rw [e1, e2, rd_getD, hx]
  by_cases h : (dd n).length ≤ i / 16
  · rw [if_pos (by omega)]
    have hz : (x : Int) = 0 := by rw [← hx, List.getD_eq_getElem?_getD, List.getElem?_eq_none h]; rfl
    rw [hx, hz] at hb
    rw [hb]
    simp
  · rw [if_neg (by omega), if_pos (by omega), if_pos (by omega), if_pos (by omega)]
    have e3 : shr .i64 (x : Int) ((i % 16 : Nat) : Int) = ((x / 2 ^ (i % 16) : Nat) : Int) := by
      unfold shr
      rw [Int.toNat_natCast, Nat.min_eq_left (by show i % 16 ≤ 64; omega)]
      simp
    rw [e3, show Int.tmod ((x / 2 ^ (i % 16) : Nat) : Int) 2 = ((x / 2 ^ (i % 16) % 2 : Nat) : Int) from rfl, hb, hx, Int.toNat_natCast]
theorem dd_mod {x M : Nat} (h : 0 < M) : (dd (x % M)).length ≤ (dd M).length := len_le_dd (Nat.le_of_lt (Nat.mod_lt _ h))
theorem dd_mul (x y : Nat) : (dd (x * y)).length ≤ (dd x).length + (dd y).length := dd_len.2 (by rw [Nat.pow_add]; exact Nat.mul_lt_mul'' (dd_len.1 (Nat.le_refl _)) (dd_len.1 (Nat.le_refl _)))
end Go.Proofs.Ytgnaaaliadiekaa.Q
