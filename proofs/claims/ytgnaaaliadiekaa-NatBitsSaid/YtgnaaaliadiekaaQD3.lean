/- The whole division: by one limb, by more, and the program's Div. -/
import Derived.Test.YtgnaaaliadiekaaBx0
import Derived.Test.YtgnaaaliadiekaaBx5
import Derived.Test.YtgnaaaliadiekaaSnatDiv
import Derived.Test.YtgnaaaliadiekaaQD2
namespace Go.Proofs.Ytgnaaaliadiekaa.Q
open Go.RowKit Go.Proofs.Ytgnaaaliadiekaa.B Go.Proofs.YtgnaaaliadiekaaW.PrintWords Go.Proofs.YtgnaaaliadiekaaW.PrintLast Go.Proofs.YtgnaaaliadiekaaW.PrintMore
set_option linter.unusedVariables false
set_option linter.unusedSimpArgs false

theorem drop_zero {B : Nat} (hB : 0 < B) {l : List Int} (h : Dig B l) (m : Nat) (hl : val B l < B ^ m) : val B (l.drop m) = 0 ∧ low B l m = val B l := by
  have e := low_val B l m
  rcases Nat.eq_zero_or_pos (val B (l.drop m)) with h0 | h0
  · rw [h0, Nat.mul_zero, Nat.add_zero] at e
    exact ⟨h0, e⟩
  · have := Nat.mul_le_mul_left (B ^ m) h0
    omega
theorem lt_of_drop {B : Nat} (hB : 0 < B) {l : List Int} (h : Dig B l) (m : Nat) (hz : val B (l.drop m) = 0) : val B l < B ^ m := by
  have e := low_val B l m
  rw [hz, Nat.mul_zero, Nat.add_zero] at e
  rw [← e]
  exact low_lt hB h m
theorem window {B : Nat} (hB : 0 < B) {l : List Int} (h : Dig B l) (i m : Nat) (hm : i ≤ m) (hml : m ≤ l.length) (hl : val B l < B ^ m) : val B ((l.take m).drop i) = val B l / B ^ i := by
  rw [val_drop_div hB (Dig.take h m) i (by rw [List.length_take]; omega), ← low_take B l m hml, (drop_zero hB h m hl).2]
theorem step_lt {U X E q V W L : Nat} (hV : 0 < V) (hq : q = W / V) (hX : X + E * (q * V) = L + E * W) (hL : L < E) : X < V * E := by
  have h1 := Nat.div_add_mod' W V
  have h2 := Nat.mod_lt W hV
  rw [← hq] at h1
  have h3 : E * W = E * (q * V) + E * (W % V) := by rw [← Nat.mul_add, h1]
  have h4 : E * (W % V + 1) ≤ E * V := Nat.mul_le_mul_left _ h2
  rw [Nat.mul_add, Nat.mul_one] at h4
  rw [Nat.mul_comm V E]
  omega
theorem step_div {U X E q V : Nat} (hV : 0 < V) (h : X + E * (q * V) = U) : U / V = X / V + E * q ∧ U % V = X % V := by
  subst h
  rw [← Nat.mul_assoc, Nat.add_mul_div_right _ _ hV, Nat.add_mul_mod_self_right]
  exact ⟨rfl, rfl⟩
theorem drop_alg64 {d r x R M V : Nat} (h : d * M + r = R * 18446744073709551616 + x) : (d + 18446744073709551616 * V) * M + r = x + 18446744073709551616 * (V * M + R) := by
  rw [Nat.add_mul, Nat.mul_assoc]
  omega
theorem many_ev (V : List Int) (n : Nat) (hV : L64 V) (hVl : V.length = n + 2) (hp : 0 < V.getD (n + 1) 0) (hV0 : 0 < vl V) : ∀ (i : Nat) (U q : List Int), L64 U → L64 q → i + n + 2 ≤ U.length → U.length < 1099511627776 → vl U < vl V * 18446744073709551616 ^ i → i ≤ q.length → (∀ k, k < i → q.getD k 0 = 0) →
    ∃ U' q' : List Int, Ev (fun k => nat_Div.many k V (n + 2) i U q) (U', q') ∧ L64 U' ∧ L64 q' ∧ U'.length = U.length ∧ q'.length = q.length ∧ vl U' = vl U % vl V ∧ vl q' = vl q + vl U / vl V := by
  intro i
  induction i with
  | zero =>
    intro U q hU hq hl hl2 hlt hiq hz
    rw [Nat.pow_zero, Nat.mul_one] at hlt
    exact ⟨U, q, Ev.now _, hU, hq, rfl, rfl, (Nat.mod_eq_of_lt hlt).symm, by rw [Nat.div_eq_of_lt hlt, Nat.add_zero]⟩
  | succ i IH =>
    intro U q hU hq hl hl2 hlt hiq hz
    have hm : i + (n + 2 + 1) ≤ U.length := by omega
    have hVlt := vl_lt hV
    have hUT : vl U < 18446744073709551616 ^ (i + (n + 2 + 1)) := by
      rw [hVl] at hVlt
      refine Nat.lt_trans hlt ?_
      rw [show i + (n + 2 + 1) = n + 2 + (i + 1) from by omega, Nat.pow_add _ (n + 2)]
      exact Nat.mul_lt_mul_of_pos_right hVlt (Nat.pow_pos (by decide))
    have hW : L64 ((U.take (i + (n + 2 + 1))).drop i) := Dig.drop (Dig.take hU _) _
    have hWl : ((U.take (i + (n + 2 + 1))).drop i).length = n + 3 := by rw [List.length_drop, List.length_take]; omega
    have hWv : vl ((U.take (i + (n + 2 + 1))).drop i) = vl U / 18446744073709551616 ^ i := window (by decide) hU i _ (Nat.le_add_right _ _) hm hUT
    have hE : 0 < 18446744073709551616 ^ i := Nat.pow_pos (by decide)
    have hWV : vl ((U.take (i + (n + 2 + 1))).drop i) < vl V * 18446744073709551616 := by
      rw [hWv, Nat.div_lt_iff_lt_mul hE, Nat.mul_assoc, Nat.mul_comm 18446744073709551616, ← Nat.pow_succ]
      exact hlt
    obtain ⟨x, x1, x2, x3, x4⟩ := guess_ev _ V n hW hV hVl hWl (by omega) hp hWV
    rw [hWv] at x2 x3
    obtain ⟨f, U1, t1, t2, t3, t4, t5⟩ := ntake_go x x4 V U i 0 0 hV hU (by omega) (by decide) (by decide)
    have hz0 := (drop_zero (B := 18446744073709551616) (by decide) hU _ hUT).1
    have em : i + V.length + 1 = i + (n + 2 + 1) := by omega
    rw [em] at t4 t5
    have hU1 : vl U1 < 18446744073709551616 ^ (i + (n + 2 + 1)) := lt_of_drop (by decide) t3 _ (by rw [t4]; exact hz0)
    have hdm := Nat.mod_add_div (vl U) (18446744073709551616 ^ i)
    have hml := Nat.mod_lt (vl U) hE
    rw [Nat.add_zero, Nat.add_zero] at t5
    have hQ : vl U / 18446744073709551616 ^ i / vl V < 18446744073709551616 := by
      rw [Nat.div_lt_iff_lt_mul hV0, Nat.mul_comm]
      rw [hWv] at hWV
      exact hWV
    have hqi : q.getD i 0 = ((0 : Nat) : Int) := hz i (Nat.lt_succ_self i)
    have hset : ∀ d : Nat, vl (q.set i (d : Int)) = vl q + 18446744073709551616 ^ i * d := by
      intro d
      have := set_value (B := 18446744073709551616) q i d 0 (by omega) hqi
      rw [Nat.mul_zero, Nat.add_zero] at this
      exact this
    have fin : ∀ X : List Int, L64 X → X.length = U.length → vl X + 18446744073709551616 ^ i * (vl U / 18446744073709551616 ^ i / vl V * vl V) = vl U % 18446744073709551616 ^ i + 18446744073709551616 ^ i * (vl U / 18446744073709551616 ^ i) →
        ∃ U' q' : List Int, Ev (fun k => nat_Div.many k V (n + 2) i X (q.set i ((vl U / 18446744073709551616 ^ i / vl V : Nat) : Int))) (U', q') ∧ L64 U' ∧ L64 q' ∧ U'.length = U.length ∧ q'.length = q.length ∧ vl U' = vl U % vl V ∧ vl q' = vl q + vl U / vl V := by
      intro X hX hXl hXv
      have hlt2 := step_lt (U := 0) hV0 rfl hXv hml
      rw [hdm] at hXv
      obtain ⟨s1, s2⟩ := step_div hV0 hXv
      obtain ⟨U', q', g1, g2, g3, g4, g5, g6, g7⟩ := IH X (q.set i ((vl U / 18446744073709551616 ^ i / vl V : Nat) : Int)) hX (Dig.set hq (Int.natCast_nonneg _) (Int.ofNat_lt.2 hQ)) (by omega) (by omega) hlt2 (by rw [List.length_set]; omega) (fun k hk => by rw [getD_set_ne _ _ _ _ (Nat.ne_of_gt hk)]; exact hz k (Nat.lt_succ_of_lt hk))
      refine ⟨U', q', g1, g2, g3, by rw [g4, hXl], by rw [g5, List.length_set], by rw [g6, s2], ?_⟩
      rw [g7, hset, s1]
      omega
    have open_ : ∀ (Y : List Int × List Int), Ev (fun k => if f = true then (nback.go V U1 i 0).bind fun U2 => nat_Div.many k V (n + 2) i U2 (q.set i (IntKind.u64.wrap ((x : Int) - 1))) else nat_Div.many k V (n + 2) i U1 (q.set i (x : Int))) Y → Ev (fun k => nat_Div.many k V (n + 2) (i + 1) U q) Y := by
      intro Y h
      simp only [nat_Div.many]
      refine Ev.bind x1 ?_
      rw [show ntake.go (x : Int) V U i 0 0 = some (f, U1) from t1]
      exact h
    cases hf : f with
    | false =>
      rw [hf] at t5
      simp only [Bool.false_eq_true, if_false, Nat.add_zero] at t5
      rw [← hdm] at t5
      obtain ⟨hx, hR⟩ := took_right x2 rfl hV0 t5 hml
      obtain ⟨U', q', g1, g2⟩ := fin U1 t3 t2 hR
      refine ⟨U', q', open_ _ ?_, g2⟩
      rw [hf]
      simp only [Bool.false_eq_true, if_false]
      rw [hx]
      exact g1
    | true =>
      rw [hf] at t5
      simp only [if_true] at t5
      rw [← hdm] at t5
      obtain ⟨U2, c, b1, b2, b3, b4, b5, b6⟩ := nback_go V U1 i 0 hV t3 (by omega) (by decide)
      rw [em] at b4 b6
      rw [Nat.add_zero] at b6
      have hU2 : vl U2 < 18446744073709551616 ^ (i + (n + 2 + 1)) := lt_of_drop (by decide) b3 _ (by rw [b4, t4]; exact hz0)
      obtain ⟨hx, hR⟩ := took_more x3 rfl hV0 t5 hU1 b6 hU2 b5
      obtain ⟨U', q', g1, g2⟩ := fin U2 b3 (by omega) hR
      refine ⟨U', q', open_ _ ?_, g2⟩
      have ew : IntKind.u64.wrap ((x : Int) - 1) = ((vl U / 18446744073709551616 ^ i / vl V : Nat) : Int) := by
        rw [hx, show ((vl U / 18446744073709551616 ^ i / vl V + 1 : Nat) : Int) - 1 = ((vl U / 18446744073709551616 ^ i / vl V : Nat) : Int) from by rw [Int.natCast_add]; exact Int.add_sub_cancel _ _]
        exact wk _ hQ
      rw [hf, ew]
      simp only [if_true]
      rw [show nback.go V U1 i 0 = some U2 from b1]
      exact g1
theorem one_l0 (a b : List Int) (hA : L64 a) (ha : a.length < 1099511627776) (b0 : Nat) (hb : b.getD 0 0 = (b0 : Int)) (hbl : 0 < b.length) (hb2 : b0 < 18446744073709551616) (hp : 0 < b0) : ∀ (j R : Nat) (q : List Int), j ≤ a.length → q.length = a.length → L64 q → (∀ k, k < j → q.getD k 0 = 0) → R < b0 → vl (q.drop j) * b0 + R = vl (a.drop j) →
    Ev (fun k => nat_Div1.l0 k a b q (R : Int) ((j : Int) - 1)) (dg (vl a / b0), dg (vl a % b0), true) := by
  intro j
  induction j with
  | zero =>
    intro R q hj hq hQ hz hR hv
    obtain ⟨d1, d2⟩ := div_digit (show vl a = vl q * b0 + R from hv.symm) hR
    refine Ev.succ ?_
    simp only [nat_Div1.l0]
    refine Ev.congr (fun k => if_neg (by decide)) ?_
    refine Ev.bind (Norm_ev hQ (by omega)) ?_
    refine Ev.bind (Of_ev (Int.natCast_nonneg R) (Int.ofNat_lt.2 (Nat.lt_trans hR hb2))) ?_
    rw [d1, d2]
    exact Ev.now _
  | succ j IH =>
    intro R q hj hq hQ hz hR hv
    obtain ⟨x, hx, hx2⟩ := getD_nat (by decide) hA j
    have ej : ((j + 1 : Nat) : Int) - 1 = (j : Int) := by omega
    have cj : (j : Int) < (a.length : Int) := by omega
    have cq : (j : Int) < (q.length : Int) := by omega
    have cb : (0 : Int) < (b.length : Int) := by omega
    have hb' : b.getD (0 : Int).toNat 0 = (b0 : Int) := hb
    have hrd : rd b 0 = (b0 : Int) := (rd_getD b 0).trans hb
    have ew : wrap64 ((j : Int) - 1) = (j : Int) - 1 := w64 (by omega) (by omega)
    have hdig : (R * 18446744073709551616 + x) / b0 < 18446744073709551616 := by
      rw [Nat.div_lt_iff_lt_mul hp]
      have := Nat.mul_le_mul_right 18446744073709551616 hR
      rw [Nat.succ_mul] at this
      rw [Nat.mul_comm 18446744073709551616 b0]
      omega
    have hd := Div64_ev R x b0 hx2 hb2 hR
    refine Ev.succ ?_
    rw [ej]
    simp only [nat_Div1.l0, if_pos (show (j : Int) ≥ 0 from Int.natCast_nonneg j), if_pos cj, if_pos cb, rd_getD, hx, hrd]
    refine Ev.bind hd ?_
    simp only [if_pos cq, ew, Int.toNat_natCast]
    refine IH _ _ (by omega) (by rw [List.length_set]; exact hq) (Dig.set hQ (Int.natCast_nonneg _) (Int.ofNat_lt.2 hdig)) (fun k hk => ?_) (Nat.mod_lt _ hp) ?_
    · rw [getD_set_ne _ _ _ _ (Nat.ne_of_gt hk)]
      exact hz k (Nat.lt_succ_of_lt hk)
    · have h1 := val_drop 18446744073709551616 (q.set j (((R * 18446744073709551616 + x) / b0 : Nat) : Int)) j (by rw [List.length_set]; omega)
      rw [getD_set_self _ _ _ (by omega), Int.toNat_natCast, set_drop _ _ _ _ (Nat.lt_succ_self j)] at h1
      have h2 := val_drop 18446744073709551616 a j (by omega)
      rw [hx, Int.toNat_natCast] at h2
      unfold vl at hv ⊢
      rw [h1, h2, ← hv]
      exact drop_alg64 (Nat.div_add_mod' (R * 18446744073709551616 + x) b0)
end Go.Proofs.Ytgnaaaliadiekaa.Q
