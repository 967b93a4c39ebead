/- A multiple taken away from a part of a number, and given back to it: what the limbs are then. -/
import Derived.Test.YtgnaaaliadiekaaBx0
import Derived.Test.YtgnaaaliadiekaaSIntr
import Derived.Test.YtgnaaaliadiekaaSnatDiv
import Derived.Test.YtgnaaaliadiekaaQA5
import Derived.Test.YtgnaaaliadiekaaQD0
namespace Go.Proofs.Ytgnaaaliadiekaa.Q
open Go.RowKit Go.Proofs.Ytgnaaaliadiekaa.B Go.Proofs.YtgnaaaliadiekaaW.PrintWords Go.Proofs.YtgnaaaliadiekaaW.PrintLast Go.Proofs.YtgnaaaliadiekaaW.PrintMore
set_option linter.unusedVariables false

theorem subs_nat (x y c : Nat) : sub64s (x : Int) (y : Int) (c : Int) = (((x + 18446744073709551616 - y - c) % 18446744073709551616 : Nat) : Int) := by simp [sub64s]
theorem subc_nat (x y c : Nat) : sub64c (x : Int) (y : Int) (c : Int) = ((if x < y + c then 1 else 0 : Nat) : Int) := by
  unfold sub64c
  simp only [Int.toNat_natCast]
  split <;> rfl
theorem sub_digit {x y c : Nat} (hx : x < 18446744073709551616) (hy : y < 18446744073709551616) (hc : c ≤ 1) :
    (x + 18446744073709551616 - y - c) % 18446744073709551616 + y + c = x + 18446744073709551616 * (if x < y + c then 1 else 0) ∧ (x + 18446744073709551616 - y - c) % 18446744073709551616 < 18446744073709551616 ∧ (if x < y + c then 1 else 0) ≤ 1 := by
  split <;> omega
theorem set_drop (l : List Int) (i j : Nat) (x : Int) (h : i < j) : (l.set i x).drop j = l.drop j := by
  rw [List.drop_set]
  simp [h]
theorem take_alg {B P V2 E x y vv c b l' ca s u b' val1 U0 : Nat} (h1 : l' + B * ca = x * y + c) (h2 : s + l' + b = u + B * b') (h3 : U0 + P * u + P * l' + P * b = U0 + P * s + P * l' + P * b + 0 → True) (hs : val1 + P * u = U0 + P * s) (hr : V2 + P * B * (x * vv + ca + b') = val1 + E) :
    V2 + P * (x * (y + B * vv) + c + b) = U0 + E := by
  have e1 : P * (x * (y + B * vv) + c + b) = P * (x * y + c) + P * b + P * B * (x * vv) := by grind
  have e2 : P * (x * y + c) = P * l' + P * B * ca := by rw [← h1]; grind
  have e3 : P * s + P * l' + P * b = P * u + P * B * b' := by
    have := congrArg (P * ·) h2
    simp only [Nat.mul_add] at this
    rw [this, Nat.mul_assoc]
  have e4 : P * B * (x * vv + ca + b') = P * B * (x * vv) + P * B * ca + P * B * b' := by simp only [Nat.mul_add]
  rw [e4] at hr
  rw [e1, e2]
  omega
theorem ntake_go (x : Nat) (hx : x < 18446744073709551616) : ∀ (v U : List Int) (o c b : Nat), L64 v → L64 U → o + v.length < U.length → c < 18446744073709551616 → b ≤ 1 →
    ∃ (f : Bool) (U' : List Int), ntake.go (x : Int) v U o (c : Int) (b : Int) = some (f, U') ∧ U'.length = U.length ∧ L64 U' ∧ U'.drop (o + v.length + 1) = U.drop (o + v.length + 1) ∧
      vl U' + 18446744073709551616 ^ o * (x * vl v + c + b) = vl U + (if f = true then 18446744073709551616 ^ (o + v.length + 1) else 0)
  | [], U, o, c, b, hv, hU, ho, hc, hb => by
    obtain ⟨u, hu, hu2⟩ := getD_nat (by omega) hU o
    obtain ⟨d1, d2, d3⟩ := sub_digit hu2 hc hb
    have es := set_value (B := 18446744073709551616) U o ((u + 18446744073709551616 - c - b) % 18446744073709551616) u (by simpa using ho) hu
    refine ⟨decide (((if u < c + b then 1 else 0 : Nat) : Int) > 0), U.set o (((u + 18446744073709551616 - c - b) % 18446744073709551616 : Nat) : Int), ?_, ?_, ?_, ?_, ?_⟩
    · simp only [ntake.go]
      rw [Int.toNat_natCast, if_pos hb, hu, subs_nat, subc_nat]
    · rw [List.length_set]
    · exact Dig.set hU (by omega) (by omega)
    · simp only [List.length_nil]
      exact set_drop _ _ _ _ (by omega)
    · simp only [List.length_nil, Nat.add_zero, Nat.pow_succ, decide_eq_true_eq]
      have e0 : x * vl [] = 0 := by simp [vl, val]
      rw [e0, Nat.zero_add]
      have eb : (if (((if u < c + b then 1 else 0 : Nat) : Int) > 0) then 18446744073709551616 ^ o * 18446744073709551616 else 0) = 18446744073709551616 ^ o * 18446744073709551616 * (if u < c + b then 1 else 0) := by
        by_cases hl : u < c + b
        · rw [if_pos hl]; simp
        · rw [if_neg hl]; simp
      rw [eb]
      generalize (u + 18446744073709551616 - c - b) % 18446744073709551616 = s at *
      generalize (if u < c + b then 1 else 0) = b' at *
      generalize hV : vl (U.set o (s : Int)) = X at *
      have es2 : X + 18446744073709551616 ^ o * u = vl U + 18446744073709551616 ^ o * s := by rw [← hV]; exact es
      generalize 18446744073709551616 ^ o = P at *
      have h2 := congrArg (P * ·) d1
      simp only [Nat.mul_add] at h2
      rw [Nat.mul_add, Nat.mul_assoc]
      omega
  | y :: v, U, o, c, b, hv, hU, ho, hc, hb => by
    obtain ⟨u, hu, hu2⟩ := getD_nat (by omega) hU o
    obtain ⟨y, rfl⟩ := Int.eq_ofNat_of_zero_le hv.head.1
    have hy : y < 18446744073709551616 := Int.ofNat_lt.1 hv.head.2
    have hM := Mul64_ev x y hx hy
    have hp : x * y / 18446744073709551616 * 18446744073709551616 + x * y % 18446744073709551616 = x * y := Nat.div_add_mod' _ _
    have hxy : x * y ≤ 18446744073709551615 * 18446744073709551615 := Nat.mul_le_mul (by omega) (by omega)
    have hml : x * y % 18446744073709551616 < 18446744073709551616 := Nat.mod_lt _ (by omega)
    generalize x * y / 18446744073709551616 = h at *
    generalize x * y % 18446744073709551616 = l at *
    have ha := Nat.mod_add_div (l + c) 18446744073709551616
    have hal : (l + c) % 18446744073709551616 < 18446744073709551616 := Nat.mod_lt _ (by omega)
    have hca : h + (l + c) / 18446744073709551616 < 18446744073709551616 := by omega
    have q1 := adds_nat l c 0
    have q2 := addc_nat l c 0
    rw [show ((0 : Nat) : Int) = 0 from rfl, Nat.add_zero] at q1 q2
    generalize (l + c) % 18446744073709551616 = l' at *
    generalize (l + c) / 18446744073709551616 = k at *
    obtain ⟨d1, d2, d3⟩ := sub_digit hu2 hal hb
    have es := set_value (B := 18446744073709551616) U o ((u + 18446744073709551616 - l' - b) % 18446744073709551616) u (by simp at ho; omega) hu
    obtain ⟨f, U', g1, g2, g3, g4, g5⟩ := ntake_go x hx v (U.set o (((u + 18446744073709551616 - l' - b) % 18446744073709551616 : Nat) : Int)) (o + 1) (h + k) (if u < l' + b then 1 else 0) hv.tail (Dig.set hU (by omega) (by omega)) (by rw [List.length_set]; simp at ho; omega) hca d3
    refine ⟨f, U', ?_, by rw [g2, List.length_set], g3, ?_, ?_⟩
    · simp only [ntake.go]
      rw [hM]
      rw [Option.bind_some]
      dsimp only
      rw [Int.toNat_natCast, if_pos hb, hu, q1, q2, addN, wu _ hca, subs_nat, subc_nat]
      exact g1
    · rw [List.length_cons, show o + (v.length + 1) + 1 = o + 1 + v.length + 1 from by omega, g4, set_drop _ _ _ _ (by omega)]
    · rw [List.length_cons, show o + (v.length + 1) + 1 = o + 1 + v.length + 1 from by omega]
      have ev : vl ((y : Int) :: v) = y + 18446744073709551616 * vl v := by simp [vl, val]
      rw [ev]
      generalize (u + 18446744073709551616 - l' - b) % 18446744073709551616 = s at *
      generalize (if u < l' + b then 1 else 0) = b' at *
      generalize (if f = true then 18446744073709551616 ^ (o + 1 + v.length + 1) else 0) = E at *
      rw [Nat.pow_succ] at g5
      exact take_alg (B := 18446744073709551616) (P := 18446744073709551616 ^ o) (ca := h + k) (by omega) d1 (fun _ => trivial) es g5
theorem nback_go : ∀ (v U : List Int) (o c : Nat), L64 v → L64 U → o + v.length < U.length → c ≤ 1 →
    ∃ (U' : List Int) (k : Nat), nback.go v U o (c : Int) = some U' ∧ U'.length = U.length ∧ L64 U' ∧ U'.drop (o + v.length + 1) = U.drop (o + v.length + 1) ∧ k ≤ 1 ∧
      vl U' + 18446744073709551616 ^ (o + v.length + 1) * k = vl U + 18446744073709551616 ^ o * (vl v + c)
  | [], U, o, c, hv, hU, ho, hc => by
    obtain ⟨u, hu, hu2⟩ := getD_nat (by omega) hU o
    have d1 := Nat.mod_add_div (u + c) 18446744073709551616
    have es := set_value (B := 18446744073709551616) U o ((u + c) % 18446744073709551616) u (by simpa using ho) hu
    refine ⟨U.set o (((u + c) % 18446744073709551616 : Nat) : Int), (u + c) / 18446744073709551616, ?_, by rw [List.length_set], Dig.set hU (by omega) (by omega), ?_, by omega, ?_⟩
    · simp only [nback.go]
      rw [hu, addN]
      rfl
    · simp only [List.length_nil]
      exact set_drop _ _ _ _ (by omega)
    · have e0 : vl [] = 0 := rfl
      rw [e0, List.length_nil, Nat.add_zero, Nat.zero_add, Nat.pow_succ]
      generalize (u + c) % 18446744073709551616 = s at *
      generalize (u + c) / 18446744073709551616 = t at *
      have es2 : vl (U.set o (s : Int)) + 18446744073709551616 ^ o * u = vl U + 18446744073709551616 ^ o * s := es
      generalize vl (U.set o (s : Int)) = X at *
      generalize 18446744073709551616 ^ o = P at *
      have h2 := congrArg (P * ·) d1
      simp only [Nat.mul_add] at h2
      rw [Nat.mul_assoc]
      omega
  | y :: v, U, o, c, hv, hU, ho, hc => by
    obtain ⟨u, hu, hu2⟩ := getD_nat (by omega) hU o
    obtain ⟨y, rfl⟩ := Int.eq_ofNat_of_zero_le hv.head.1
    have hy : y < 18446744073709551616 := Int.ofNat_lt.1 hv.head.2
    have d1 := Nat.mod_add_div (u + y + c) 18446744073709551616
    have es := set_value (B := 18446744073709551616) U o ((u + y + c) % 18446744073709551616) u (by simp at ho; omega) hu
    obtain ⟨U', k, g1, g2, g3, g4, g5, g6⟩ := nback_go v (U.set o (((u + y + c) % 18446744073709551616 : Nat) : Int)) (o + 1) ((u + y + c) / 18446744073709551616) hv.tail (Dig.set hU (by omega) (by omega)) (by rw [List.length_set]; simp at ho; omega) (by omega)
    refine ⟨U', k, ?_, by rw [g2, List.length_set], g3, ?_, g5, ?_⟩
    · simp only [nback.go]
      rw [Int.toNat_natCast, if_pos hc, hu, adds_nat, addc_nat]
      exact g1
    · rw [List.length_cons, show o + (v.length + 1) + 1 = o + 1 + v.length + 1 from by omega, g4, set_drop _ _ _ _ (by omega)]
    · rw [List.length_cons, show o + (v.length + 1) + 1 = o + 1 + v.length + 1 from by omega, g6]
      have ev : vl ((y : Int) :: v) = y + 18446744073709551616 * vl v := by simp [vl, val]
      rw [ev]
      generalize (u + y + c) % 18446744073709551616 = s at *
      generalize (u + y + c) / 18446744073709551616 = t at *
      have es2 : vl (U.set o (s : Int)) + 18446744073709551616 ^ o * u = vl U + 18446744073709551616 ^ o * s := es
      generalize vl (U.set o (s : Int)) = X at *
      rw [Nat.pow_succ]
      generalize 18446744073709551616 ^ o = P at *
      have h2 := congrArg (P * ·) d1
      simp only [Nat.mul_add] at h2
      simp only [Nat.mul_add, Nat.mul_assoc]
      omega
end Go.Proofs.Ytgnaaaliadiekaa.Q
