/- Powers below a modulus: the bits of a number, from the greatest one on; the code's and the document's. -/
import Derived.Test.YtanjbjenohdodaaBx0
import Derived.Test.YtanjbjenohdodaaSmodularPow
import Derived.Test.YtanjbjenohdodaaQM2
import Derived.Laws.Bits64b
namespace Go.Proofs.Ytanjbjenohdodaa.Q
open Go.RowKit Go.Proofs.Ytanjbjenohdodaa.B Go.Proofs.YtanjbjenohdodaaW.PrintWords Go.Proofs.YtanjbjenohdodaaW.PrintLast Go.Proofs.YtanjbjenohdodaaW.PrintMore
set_option linter.unusedVariables false
set_option linter.unusedSimpArgs false

theorem val_bit {B e : Nat} (hB : B = 2 ^ e) {l : List Int} (h : Dig B l) (q s : Nat) (hs : s < e) : val B l / 2 ^ (e * q + s) % 2 = (l.getD q 0).toNat / 2 ^ s % 2 := by
  have hp : 0 < B := by rw [hB]; exact Nat.two_pow_pos e
  rw [Nat.pow_add, Nat.pow_mul, ← hB, ← Nat.div_div_eq_div_mul]
  by_cases hq : q < l.length
  · rw [← val_drop_div hp h q (Nat.le_of_lt hq), val_drop B l q hq, hB, show 2 ^ e = 2 ^ s * 2 ^ (e - s) from by rw [← Nat.pow_add]; congr 1; omega, Nat.mul_assoc, Nat.add_mul_div_left _ _ (Nat.two_pow_pos s)]
    rw [show e - s = (e - s - 1) + 1 from by omega, Nat.pow_succ, Nat.mul_assoc, Nat.mul_comm (2 ^ (e - s - 1)), Nat.mul_assoc, Nat.add_mul_mod_self_left]
  · rw [List.getD_eq_getElem?_getD, List.getElem?_eq_none (by omega), Nat.div_eq_of_lt (Nat.lt_of_lt_of_le (val_lt hp h) (Nat.pow_le_pow_right hp (by omega)))]
    simp
theorem bitOf_nat {zs : List Int} (hZ : L64 zs) (i : Nat) : bitOf zs i = (vl zs / 2 ^ i % 2 == 1) := by
  have hb := val_bit (B := 18446744073709551616) (e := 64) rfl hZ (i / 64) (i % 64) (Nat.mod_lt _ (by decide))
  rw [Nat.div_add_mod] at hb
  obtain ⟨x, hx, hx2⟩ := getD_nat (by decide) hZ (i / 64)
  unfold bitOf
  rw [show ((i : Int) / 64) = ((i / 64 : Nat) : Int) from rfl, rd_getD, hx, show ((x : Int) / 2 ^ (i % 64)) = ((x / 2 ^ (i % 64) : Nat) : Int) from by simp]
  have h1 := bits_and_u64_nat (x / 2 ^ (i % 64)) 1 (Nat.lt_of_le_of_lt (Nat.div_le_self _ _) hx2) (by decide)
  rw [show ((1 : Nat) : Int) = 1 from rfl] at h1
  rw [h1, Nat.and_one_is_mod]
  unfold vl
  rw [hb, hx, Int.toNat_natCast]
  generalize x / 2 ^ (i % 64) % 2 = b
  rw [Bool.eq_iff_iff, beq_iff_eq, beq_iff_eq]
  omega
theorem Ev_below {α : Type} {g : Nat → Nat → Option α} {r : Nat → α} : ∀ M : Nat, (∀ x, x < M → Ev (g x) (r x)) → ∃ K, ∀ k, K ≤ k → ∀ x, x < M → g x k = some (r x)
  | 0, _ => ⟨0, fun _ _ x hx => absurd hx (Nat.not_lt_zero x)⟩
  | M + 1, h => by
    obtain ⟨K, hK⟩ := Ev_below M (fun x hx => h x (by omega))
    obtain ⟨K2, hK2⟩ := h M (by omega)
    refine ⟨max K K2, fun k hk x hx => ?_⟩
    by_cases e : x = M
    · subst e
      exact hK2 k (by omega)
    · exact hK k (by omega) x (by omega)
/-- one round, as numbers -/
def pstep (A M x : Nat) (b : Bool) : Nat := if b = true then x * x % M * A % M else x * x % M
theorem pstep_lt {A M x : Nat} {b : Bool} (h : 0 < M) : pstep A M x b < M := by
  unfold pstep
  split <;> exact Nat.mod_lt _ h
theorem mstep_ev {a m : List Int} (hA : L64 a) (hM : L64 m) (ha : a.length < 134217728) (hm : m.length < 67108864) (h0 : 0 < vl m) (x : Nat) (hx : x < vl m) (b : Bool) : Ev (fun k => modular_Pow.step k a m (dg x) b) (dg (pstep (vl a) (vl m) x b)) := by
  have lx : (dg x).length ≤ m.length := fits_of_le (Nat.le_of_lt hx) (vl_lt hM)
  have g1 := mMul_ev (dg_L x) (dg_L x) hM (by omega) (by omega) (by omega) h0
  rw [vl_dg] at g1
  have l2 := mod_fits hM h0 (x * x)
  have g2 := mMul_ev (dg_L (x * x % vl m)) hA hM (by omega) (by omega) (by omega) h0
  rw [vl_dg] at g2
  unfold modular_Pow.step
  refine Ev.bind g1 ?_
  cases b with
  | false => exact Ev.congr (fun k => if_neg (by decide)) (Ev.now _)
  | true => exact Ev.congr (fun k => if_pos rfl) (Ev.bind g2 (Ev.now _))
theorem pow_bit (A M N i : Nat) : pstep A M (A ^ (N / 2 ^ (i + 1)) % M) (N / 2 ^ i % 2 == 1) = A ^ (N / 2 ^ i) % M := by
  have e : N / 2 ^ (i + 1) = N / 2 ^ i / 2 := by rw [Nat.pow_succ, Nat.div_div_eq_div_mul]
  rw [e]
  generalize N / 2 ^ i = n
  have h2 : A ^ (n / 2) % M * (A ^ (n / 2) % M) % M = A ^ (2 * (n / 2)) % M := by rw [← Nat.mul_mod, ← Nat.pow_add, Nat.two_mul]
  unfold pstep
  rw [h2]
  rcases Nat.mod_two_eq_zero_or_one n with h | h
  · rw [if_neg (by rw [h]; decide), show 2 * (n / 2) = n from by omega]
  · rw [if_pos (by rw [h]; rfl), Nat.mod_mul_mod, ← Nat.pow_succ, show (2 * (n / 2)).succ = n from by omega]
theorem fold_bits {k : Nat} {a m zs : List Int} (hZ : L64 zs) (A M L : Nat) (hM : 0 < M) (hst : ∀ x, x < M → ∀ b, modular_Pow.step k a m (dg x) b = some (dg (pstep A M x b))) (hL : vl zs < 2 ^ L) : ∀ j, j ≤ L → modular_Pow.fold k a m (upto (bitsOf zs L) j) (dg (1 % M)) = some (dg (A ^ (vl zs / 2 ^ (L - j)) % M))
  | 0, _ => by
    rw [Nat.sub_zero, Nat.div_eq_of_lt hL]
    rfl
  | j + 1, hj => by
    rw [upto_succ]
    refine modular_Pow.fold_snoc k a m _ _ _ _ _ (fold_bits hZ A M L hM hst hL j (by omega)) ?_
    rw [hst _ (Nat.mod_lt _ hM)]
    show some (dg (pstep A M (A ^ (vl zs / 2 ^ (L - j)) % M) (bitOf zs (L - 1 - j)))) = _
    rw [bitOf_nat hZ, show L - j = (L - 1 - j) + 1 from by omega, pow_bit, show L - (j + 1) = L - 1 - j from by omega]
theorem rounds_ev {a m zs : List Int} (hA : L64 a) (hM : L64 m) (hZ : L64 zs) (ha : a.length < 134217728) (hm : m.length < 67108864) (hz : zs.length < 1073741824) (h0 : 0 < vl m) : Ev (fun k => modular_Pow.rounds k a m (dg (1 % vl m)) zs (bl (vl zs) : Int)) (dg (vl a ^ vl zs % vl m)) := by
  obtain ⟨K1, hK1⟩ := Ev_below (g := fun x k => modular_Pow.step k a m (dg x) false) (r := fun x => dg (pstep (vl a) (vl m) x false)) (vl m) (fun x hx => mstep_ev hA hM ha hm h0 x hx false)
  obtain ⟨K2, hK2⟩ := Ev_below (g := fun x k => modular_Pow.step k a m (dg x) true) (r := fun x => dg (pstep (vl a) (vl m) x true)) (vl m) (fun x hx => mstep_ev hA hM ha hm h0 x hx true)
  refine ⟨max K1 K2, fun k hk => ?_⟩
  have hst : ∀ x, x < vl m → ∀ b, modular_Pow.step k a m (dg x) b = some (dg (pstep (vl a) (vl m) x b)) := by
    intro x hx b
    cases b with
    | false => exact hK1 k (by omega) x hx
    | true => exact hK2 k (by omega) x hx
  have hbl : bl (vl zs) ≤ 64 * zs.length := bl_le_iff.2 (by rw [← pow64]; exact vl_lt hZ)
  show modular_Pow.rounds k a m (dg (1 % vl m)) zs (bl (vl zs) : Int) = _
  unfold modular_Pow.rounds
  rw [if_pos ⟨by omega, Int.natCast_nonneg _, by omega, modular_Pow.ok_of (fun o => ∃ x, x < vl m ∧ o = dg x) (by
    rintro o b ⟨x, hx, rfl⟩
    exact ⟨_, hst x hx b, _, pstep_lt h0, rfl⟩) _ _ ⟨_, Nat.mod_lt _ h0, rfl⟩⟩]
  rw [Int.toNat_natCast, fold_bits hZ (vl a) (vl m) _ h0 hst (lt_bl _) _ (Nat.le_refl _), Nat.sub_self, Nat.pow_zero, Nat.div_one]
theorem mPow_ev {a n m : List Int} (hA : L64 a) (hN : L64 n) (hM : L64 m) (ha : a.length < 134217728) (hn : n.length < 1073741824) (hm : m.length < 67108864) (h0 : 0 < vl m) : Ev (fun k => modular_Pow.f k a n m) (dg (vl a ^ vl n % vl m), 0) := by
  unfold modular_Pow.f
  refine Ev.bind (mOf_ev hA hM (by omega) (by omega) h0) ?_
  refine Ev.congr (fun k => if_pos rfl) ?_
  refine Ev.bind (Of_ev (by decide) (by decide)) ?_
  have d1 : (dg (1 : Int).toNat).length ≤ 1 := dg_fits (k := 1) (by decide)
  have g1 := mOf_ev (dg_L (1 : Int).toNat) hM (by omega) (by omega) h0
  rw [vl_dg] at g1
  refine Ev.bind g1 ?_
  refine Ev.bind (Len_ev hN (by omega)) ?_
  have l1 := mod_fits hM h0 (vl a)
  have g2 := rounds_ev (dg_L (vl a % vl m)) hM hN (by omega) hm hn h0
  rw [vl_dg, ← Nat.pow_mod] at g2
  exact Ev.bind g2 (Ev.now _)
theorem mPow_zero {a n m : List Int} (hA : L64 a) (hM : L64 m) (ha : a.length < 134217728) (hm : m.length < 67108864) (h0 : vl m = 0) : Ev (fun k => modular_Pow.f k a n m) ([], 4) := by
  unfold modular_Pow.f
  refine Ev.bind (mOf_zero hA hM (by omega) (by omega) h0) ?_
  exact Ev.congr (fun k => if_neg (by decide)) (Ev.now _)
theorem dd_mod {x M : Nat} (h : 0 < M) : (dd (x % M)).length ≤ (dd M).length := len_le_dd (Nat.le_of_lt (Nat.mod_lt _ h))
theorem dd_mul (x y : Nat) : (dd (x * y)).length ≤ (dd x).length + (dd y).length := dd_len.2 (by rw [Nat.pow_add]; exact Nat.mul_lt_mul'' (dd_len.1 (Nat.le_refl _)) (dd_len.1 (Nat.le_refl _)))
end Go.Proofs.Ytanjbjenohdodaa.Q
