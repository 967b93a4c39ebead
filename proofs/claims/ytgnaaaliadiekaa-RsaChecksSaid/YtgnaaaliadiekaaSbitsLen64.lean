/- Written by xp.py, a program of this session, over the print of the kit: what it says is checked by its build. -/
import Derived.Test.YtgnaaaliadiekaaBx0
import Derived.Lib.BitFns
import Derived.Lib.Hide
namespace Go.Proofs.Ytgnaaaliadiekaa.B
open Go.RowKit Go.Proofs.YtgnaaaliadiekaaW.PrintWords Go.Proofs.YtgnaaaliadiekaaW.PrintLast Go.Proofs.YtgnaaaliadiekaaW.PrintMore
attribute [local go_sem] max2_int min2_int max_two min_two max_three min_three max_four min_four   -- for this text's walks alone
attribute [local go_sem] run_Add64 run_Add64_0 run_Sub64 run_Sub64_0
set_option linter.unusedVariables false
set_option linter.unusedSimpArgs false

def bits_Len64.f (a0 : Int) : Option Int := if 0 ≤ a0 then (if a0 ≤ 18446744073709551615 then some (Lib.bitLen a0.toNat : Int) else none) else none
theorem len8tab_size : Lib.len8tab.size = 256 := by decide +kernel
theorem len8tab_all : ∀ n : Fin 256, (Lib.len8tab[n.val]'(by rw [len8tab_size]; exact n.2)).toNat = Lib.bitLen n.val := by decide +kernel
theorem len8tab_at (n : Nat) (h : n < Lib.len8tab.size) : (Lib.len8tab[n]'h).toNat = Lib.bitLen n := len8tab_all ⟨n, by rw [len8tab_size] at h; exact h⟩
theorem len64_div (x : Int) (h0 : 0 ≤ x) : (x / 4294967296 / 65536 / 256).toNat = x.toNat / 72057594037927936 ∧ (x / 4294967296 / 65536).toNat = x.toNat / 281474976710656 ∧ (x / 4294967296 / 256).toNat = x.toNat / 1099511627776 ∧
    (x / 4294967296).toNat = x.toNat / 4294967296 ∧ (x / 65536 / 256).toNat = x.toNat / 16777216 ∧ (x / 65536).toNat = x.toNat / 65536 ∧ (x / 256).toNat = x.toNat / 256 := by
  obtain ⟨n, rfl⟩ := Int.eq_ofNat_of_zero_le h0
  have d (a b : Nat) : ((a : Int) / (b : Int)).toNat = a / b := rfl
  refine ⟨?_, ?_, ?_, rfl, ?_, rfl, rfl⟩
  · show n / 4294967296 / 65536 / 256 = n / 72057594037927936
    rw [Nat.div_div_eq_div_mul, Nat.div_div_eq_div_mul]
  · show n / 4294967296 / 65536 = n / 281474976710656
    rw [Nat.div_div_eq_div_mul]
  · show n / 4294967296 / 256 = n / 1099511627776
    rw [Nat.div_div_eq_div_mul]
  · show n / 65536 / 256 = n / 16777216
    rw [Nat.div_div_eq_div_mul]
theorem wrap64_len (a b : Nat) (ha : a ≤ 64) (hb : b ≤ 64) : wrap64 ((a : Int) + wrap64 (b : Int)) = ((a + b : Nat) : Int) := by
  unfold wrap64
  omega
set_option maxHeartbeats 4000000 in
set_option maxRecDepth 100000 in
theorem len64_any (x : Int) (w : World) (h0 : 0 ≤ x) (h1 : x ≤ 18446744073709551615) :
    Calls Try.prog 77 #[.int .u64 x] w fun e w' => e = .returned (.int .i64 (Lib.bitLen x.toNat)) ∧ w' = w := by
  have hsz := len8tab_size
  have HS := Lib.hid hsz
  clear hsz
  go_enter Try.func77, Try.ntmps77
  go_wp2
  all_goals first | (go_ret; refine ⟨congrArg Ending.returned (congrArg (Value.int IntKind.i64) ?_), rfl⟩) | (exfalso; have := HS.out; omega)
  all_goals (rw [len8tab_at])
  all_goals have hs := HS.out
  all_goals obtain ⟨e56, e48, e40, e32, e24, e16, e8⟩ := len64_div x h0
  · have h56 : 72057594037927936 ≤ x.toNat := by
      have h1 : 1 ≤ x / 4294967296 / 65536 / 256 := Int.le_ediv_of_mul_le (by decide) (by omega)
      have h2 : 1 ≤ x.toNat / 72057594037927936 := by rw [← e56]; omega
      exact (Nat.one_le_div_iff (by decide)).1 h2
    have s := Lib.bitLen_shift56 x.toNat h56 (by omega)
    have l := Lib.bitLen_le8' (x / 4294967296 / 65536 / 256) (by omega) (by omega)
    rw [e56] at l ⊢
    rw [s]
    clear s e56 e48 e40 e32 e24 e16 e8
    exact wrap64_len 56 _ (by omega) (by omega)
  · have s := Lib.bitLen_shift48 x.toNat (by omega) (by omega)
    have l := Lib.bitLen_le8' (x / 4294967296 / 65536) (by omega) (by omega)
    rw [e48] at l ⊢
    rw [s]
    clear s e56 e48 e40 e32 e24 e16 e8
    exact wrap64_len 48 _ (by omega) (by omega)
  · have s := Lib.bitLen_shift40 x.toNat (by omega) (by omega)
    have l := Lib.bitLen_le8' (x / 4294967296 / 256) (by omega) (by omega)
    rw [e40] at l ⊢
    rw [s]
    clear s e56 e48 e40 e32 e24 e16 e8
    exact wrap64_len 40 _ (by omega) (by omega)
  · have s := Lib.bitLen_shift32 x.toNat (by omega) (by omega)
    have l := Lib.bitLen_le8' (x / 4294967296) (by omega) (by omega)
    rw [e32] at l ⊢
    rw [s]
    clear s e56 e48 e40 e32 e24 e16 e8
    exact wrap64_len 32 _ (by omega) (by omega)
  · have s := Lib.bitLen_shift24 x.toNat (by omega) (by omega)
    have l := Lib.bitLen_le8' (x / 65536 / 256) (by omega) (by omega)
    rw [e24] at l ⊢
    rw [s]
    clear s e56 e48 e40 e32 e24 e16 e8
    exact wrap64_len 24 _ (by omega) (by omega)
  · have s := Lib.bitLen_shift16 x.toNat (by omega) (by omega)
    have l := Lib.bitLen_le8' (x / 65536) (by omega) (by omega)
    rw [e16] at l ⊢
    rw [s]
    clear s e56 e48 e40 e32 e24 e16 e8
    exact wrap64_len 16 _ (by omega) (by omega)
  · have s := Lib.bitLen_shift8 x.toNat (by omega) (by omega)
    have l := Lib.bitLen_le8' (x / 256) (by omega) (by omega)
    rw [e8] at l ⊢
    rw [s]
    clear s e56 e48 e40 e32 e24 e16 e8
    exact wrap64_len 8 _ (by omega) (by omega)
  · clear e56 e48 e40 e32 e24 e16 e8
    have l := Lib.bitLen_le8' x (by omega) (by omega)
    generalize Lib.bitLen x.toNat = q at l ⊢
    clear hs HS
    unfold wrap64
    omega
theorem bits_Len64.calls (a0 : Int) (r : Int) (w : World) (h : bits_Len64.f a0 = some r) :
    Calls Try.prog 77 #[.int .u64 a0] w fun e w' => e = .returned (.int .i64 r) ∧ Drawn0 w w' := by
  unfold bits_Len64.f at h
  split at h
  · split at h
    · injection h with h
      subst h
      refine (len64_any a0 w (by assumption) (by assumption)).mono ?_
      rintro e w' ⟨rfl, rfl⟩
      exact ⟨rfl, Drawn0.refl _⟩
    · cases h
  · cases h

end Go.Proofs.Ytgnaaaliadiekaa.B
