/- The program's Div, whole. -/
import Derived.Test.YtgnaaaliadiekaaBx0
import Derived.Test.YtgnaaaliadiekaaBx3
import Derived.Test.YtgnaaaliadiekaaBx5
import Derived.Test.YtgnaaaliadiekaaSnatDiv
import Derived.Test.YtgnaaaliadiekaaQD3
namespace Go.Proofs.Ytgnaaaliadiekaa.Q
open Go.RowKit Go.Proofs.Ytgnaaaliadiekaa.B Go.Proofs.YtgnaaaliadiekaaW.PrintWords Go.Proofs.YtgnaaaliadiekaaW.PrintLast Go.Proofs.YtgnaaaliadiekaaW.PrintMore
set_option linter.unusedVariables false
set_option linter.unusedSimpArgs false

theorem dg_vl_len {a : List Int} (hA : L64 a) : (dg (vl a)).length ≤ a.length := dg_len.2 (vl_lt hA)
theorem dg_nil {n : Nat} (h : (dg n).length = 0) : n = 0 := (digs_eq_nil (by decide)).1 (List.eq_nil_of_length_eq_zero h)
theorem dg_top {n k : Nat} (h : (dg n).length = k + 1) : ∃ t : Nat, (dg n).getD k 0 = (t : Int) ∧ 0 < t ∧ t < 18446744073709551616 ∧ 18446744073709551616 ^ k ≤ n ∧ n < (t + 1) * 18446744073709551616 ^ k := by
  obtain ⟨t, ht, ht2⟩ := getD_nat (by decide) (dg_L n) k
  have hne : (dg n).getD k 0 ≠ 0 := (show Trim (dg n) from digs_Trim (by decide) n) _ (by rw [List.getLast?_eq_getElem?, List.getD_eq_getElem?_getD, h, Nat.add_sub_cancel, List.getElem?_eq_getElem (by omega)]; rfl)
  have htp : 0 < t := by
    rcases Nat.eq_zero_or_pos t with h0 | h0
    · rw [ht, h0] at hne
      exact absurd rfl hne
    · exact h0
  have e := low_all 18446744073709551616 (dg n) (Nat.le_of_eq h)
  rw [show val 18446744073709551616 (dg n) = n from vl_dg n] at e
  simp only [low] at e
  rw [ht, Int.toNat_natCast] at e
  have hl := low_lt (B := 18446744073709551616) (by decide) (dg_L n) k
  refine ⟨t, ht, htp, ht2, ?_, ?_⟩
  · have := Nat.mul_le_mul_left (18446744073709551616 ^ k) htp
    omega
  · rw [← e]
    exact lt_top hl
theorem Div1_zero {a b : List Int} (hA : L64 a) (hB : L64 b) (ha : a.length < 1099511627776) (hb : b.length < 1099511627776) (h0 : vl b = 0) : Ev (fun k => nat_Div1.f k a b) ([], [], false) := by
  unfold nat_Div1.f
  refine Ev.bind (Norm_ev hA (by omega)) ?_
  refine Ev.bind (Norm_ev hB (by omega)) ?_
  rw [h0, show dg 0 = [] from digs_zero _]
  exact Ev.congr (fun k => if_pos rfl) (Ev.now _)
theorem Div1_ev {a b : List Int} (hA : L64 a) (hB : L64 b) (ha : a.length < 1099511627776) (hb : b.length < 1099511627776) (h1 : (dg (vl b)).length = 1) : Ev (fun k => nat_Div1.f k a b) (dg (vl a / vl b), dg (vl a % vl b), true) := by
  have hal := dg_vl_len hA
  have hbl := dg_vl_len hB
  obtain ⟨t, t1, t2, t3, t4, t5⟩ := dg_top h1
  unfold nat_Div1.f
  refine Ev.bind (Norm_ev hA (by omega)) ?_
  refine Ev.bind (Norm_ev hB (by omega)) ?_
  refine Ev.congr (fun k => if_neg (by rw [h1]; decide)) ?_
  have hc := Cmp_ev (dg_L (vl a)) (dg_L (vl b)) (by omega) (by omega)
  rw [vl_dg, vl_dg] at hc
  refine Ev.bind hc ?_
  rcases Nat.lt_or_ge (vl a) (vl b) with h | h
  · have e : cmp3 (vl a) (vl b) < 0 := by unfold cmp3; rw [if_pos h]; decide
    refine Ev.congr (fun k => if_pos e) ?_
    rw [Nat.div_eq_of_lt h, Nat.mod_eq_of_lt h, show dg 0 = [] from digs_zero _]
    exact Ev.now _
  · have e : ¬ cmp3 (vl a) (vl b) < 0 := by unfold cmp3; rw [if_neg (by omega)]; split <;> decide
    have hvb : vl b = t := by
      rw [Nat.pow_zero, Nat.mul_one] at t5
      have := low_all 18446744073709551616 (dg (vl b)) (Nat.le_of_eq h1)
      rw [show val 18446744073709551616 (dg (vl b)) = vl b from vl_dg _] at this
      simp only [low] at this
      rw [t1, Int.toNat_natCast] at this
      omega
    refine Ev.congr (fun k => (if_neg e).trans ((if_pos (by rw [h1]; decide)).trans ((if_pos (Int.natCast_nonneg _)).trans (if_pos (by rw [Int.toNat_natCast]; omega))))) ?_
    have ew : wrap64 (((dg (vl a)).length : Int) - 1) = ((dg (vl a)).length : Int) - 1 := w64 (by omega) (by omega)
    rw [ew, Int.toNat_natCast]
    have hh := one_l0 (dg (vl a)) (dg (vl b)) (dg_L _) (by omega) t t1 (by omega) t3 t2 (dg (vl a)).length 0 (List.replicate (dg (vl a)).length 0) (Nat.le_refl _) List.length_replicate (Dig.zeros _ _ (by decide)) (fun k hk => by simp [List.getD, hk]) t2 (by
      rw [List.drop_eq_nil_of_le (Nat.le_refl _), List.drop_eq_nil_of_le (by rw [List.length_replicate]; exact Nat.le_refl _)]
      simp [vl, val])
    rw [vl_dg, ← hvb] at hh
    exact hh
theorem Div_zero {a b : List Int} (hA : L64 a) (hB : L64 b) (ha : a.length < 536870912) (hb : b.length < 536870912) (h0 : vl b = 0) : Ev (fun k => nat_Div.f k a b) ([], [], false) := by
  unfold nat_Div.f
  refine Ev.bind (Norm_ev hA (by omega)) ?_
  refine Ev.bind (Norm_ev hB (by omega)) ?_
  refine Ev.congr (fun k => if_pos (by rw [h0, show dg 0 = [] from digs_zero _]; decide)) ?_
  exact Div1_zero hA hB (by omega) (by omega) h0
/-- the lengths of a long division -/
theorem div_sizes {A M n la t : Nat} (hl : (dg M).length = n + 2) (hla : (dg A).length = la) (hle : n + 2 ≤ la) (ht : 0 < t) (ht2 : t < 18446744073709551616) (hM : M < (t + 1) * 18446744073709551616 ^ (n + 1)) (hM2 : 18446744073709551616 ^ (n + 1) ≤ M) :
    M * 2 ^ (64 - bl t) < 18446744073709551616 ^ (n + 2) ∧ (dg (M * 2 ^ (64 - bl t))).length = n + 2 ∧ (dg (A * 2 ^ (64 - bl t))).length ≤ la + 1 ∧ la ≤ (dg (A * 2 ^ (64 - bl t))).length ∧ A * 2 ^ (64 - bl t) < 18446744073709551616 ^ (la + 1) ∧ A * 2 ^ (64 - bl t) < M * 2 ^ (64 - bl t) * 18446744073709551616 ^ (la - (n + 2) + 1) := by
  obtain ⟨b1, b2, b3, b4⟩ := norm_shift t ht ht2
  have hs : 64 - bl t ≤ 63 := by omega
  generalize 64 - bl t = s at *
  have hP : 0 < 2 ^ s := Nat.two_pow_pos s
  have e64 : 2 ^ (64 - s) * 2 ^ s = 18446744073709551616 := by rw [← Nat.pow_add, Nat.sub_add_cancel (by omega)]
  have ht3 : (t + 1) * 2 ^ s ≤ 18446744073709551616 := by
    rw [← e64]
    refine Nat.mul_le_mul_right _ ?_
    rw [← e64] at b3
    exact Nat.lt_of_mul_lt_mul_right b3
  have h1 : M * 2 ^ s < 18446744073709551616 ^ (n + 2) := by
    have h2 := Nat.mul_lt_mul_of_pos_right hM hP
    have h3 := Nat.mul_le_mul_right (18446744073709551616 ^ (n + 1)) ht3
    have h4 : (t + 1) * 18446744073709551616 ^ (n + 1) * 2 ^ s = (t + 1) * 2 ^ s * 18446744073709551616 ^ (n + 1) := by rw [Nat.mul_right_comm]
    rw [show n + 2 = n + 1 + 1 from rfl, Nat.pow_succ _ (n + 1), Nat.mul_comm _ 18446744073709551616]
    omega
  have hA : A < 18446744073709551616 ^ la := by rw [← hla]; exact dg_len.1 (Nat.le_refl _)
  have hsB : 2 ^ s ≤ 18446744073709551616 := by
    have : 2 ^ s ≤ 2 ^ 63 := Nat.pow_le_pow_right (by decide) hs
    omega
  have hAs : A * 2 ^ s < 18446744073709551616 ^ (la + 1) := by
    have h2 := Nat.mul_lt_mul_of_pos_right hA hP
    have h3 := Nat.mul_le_mul_left (18446744073709551616 ^ la) hsB
    rw [Nat.pow_succ]
    omega
  refine ⟨h1, Nat.le_antisymm (dg_len.2 h1) ?_, dg_len.2 hAs, ?_, hAs, ?_⟩
  · refine Nat.le_of_not_lt (fun hc => ?_)
    have h2 := dg_len.1 (Nat.le_of_lt_succ hc)
    have h3 : M ≤ M * 2 ^ s := Nat.le_mul_of_pos_right _ hP
    omega
  · obtain ⟨l, rfl⟩ : ∃ l, la = l + 1 := ⟨la - 1, by omega⟩
    obtain ⟨_, _, _, _, h4, _⟩ := dg_top hla
    refine Nat.le_of_not_lt (fun hc => ?_)
    have h2 := dg_len.1 (Nat.le_of_lt_succ hc)
    have h3 : A ≤ A * 2 ^ s := Nat.le_mul_of_pos_right _ hP
    omega
  · have h2 : 18446744073709551616 ^ la ≤ M * 18446744073709551616 ^ (la - (n + 2) + 1) := by
      have h3 := Nat.mul_le_mul_right (18446744073709551616 ^ (la - (n + 2) + 1)) hM2
      rw [← Nat.pow_add, show n + 1 + (la - (n + 2) + 1) = la from by omega] at h3
      exact h3
    have h3 := Nat.mul_lt_mul_of_pos_right (Nat.lt_of_lt_of_le hA h2) hP
    rw [Nat.mul_right_comm] at h3
    exact h3
theorem Div_ev {a b : List Int} (hA : L64 a) (hB : L64 b) (ha : a.length < 536870912) (hb : b.length < 536870912) (h0 : 0 < vl b) : Ev (fun k => nat_Div.f k a b) (dg (vl a / vl b), dg (vl a % vl b), true) := by
  have hal := dg_vl_len hA
  have hbl := dg_vl_len hB
  unfold nat_Div.f
  refine Ev.bind (Norm_ev hA (by omega)) ?_
  refine Ev.bind (Norm_ev hB (by omega)) ?_
  by_cases h1 : (dg (vl b)).length ≤ 1
  · have h2 : (dg (vl b)).length = 1 := by
      rcases Nat.eq_zero_or_pos (dg (vl b)).length with h | h
      · have := dg_nil h
        omega
      · omega
    exact Ev.congr (fun k => if_pos h1) (Div1_ev hA hB (by omega) (by omega) h2)
  · refine Ev.congr (fun k => if_neg h1) ?_
    generalize vl a = A at *
    generalize vl b = M at *
    have hc := Cmp_ev (dg_L A) (dg_L M) (by omega) (by omega)
    rw [vl_dg, vl_dg] at hc
    refine Ev.bind hc ?_
    rcases Nat.lt_or_ge A M with h | h
    · have e : cmp3 A M < 0 := by unfold cmp3; rw [if_pos h]; decide
      refine Ev.congr (fun k => if_pos e) ?_
      rw [Nat.div_eq_of_lt h, Nat.mod_eq_of_lt h, show dg 0 = [] from digs_zero _]
      exact Ev.now _
    · have e : ¬ cmp3 A M < 0 := by unfold cmp3; rw [if_neg (by omega)]; split <;> decide
      have hle : (dg M).length ≤ (dg A).length := dg_len.2 (Nat.lt_of_le_of_lt h (dg_len.1 (Nat.le_refl _)))
      obtain ⟨n, hn⟩ : ∃ n, (dg M).length = n + 2 := ⟨(dg M).length - 2, by omega⟩
      obtain ⟨la, hla⟩ : ∃ la, (dg A).length = la := ⟨_, rfl⟩
      obtain ⟨t, t1, t2, t3, t4, t5⟩ := dg_top hn
      obtain ⟨s1, s2, s3, s4, s5, s6⟩ := div_sizes hn hla (by omega) t2 t3 t5 t4
      have hb64 := bl_le 64 t (by omega)
      refine Ev.congr (fun k => (if_neg e).trans (if_pos ⟨by omega, hle⟩)) ?_
      have hrd : rd (dg M) (((dg M).length : Int) - 1) = (t : Int) := by
        rw [hn, show ((n + 2 : Nat) : Int) - 1 = ((n + 1 : Nat) : Int) from by omega, rd_getD]
        exact t1
      have eL : bits_LeadingZeros64.f (rd (dg M) (((dg M).length : Int) - 1)) = some ((64 - bl t : Nat) : Int) := by
        unfold bits_LeadingZeros64.f
        rw [hrd, Len64_ev (Int.natCast_nonneg _) (Int.ofNat_lt.2 t3), Int.toNat_natCast]
        show some (wrap64 (64 - (bl t : Int))) = _
        rw [w64 (by omega) (by omega)]
        congr 1
        omega
      rw [eL]
      refine Ev.congr (fun k => Option.bind_some _ _) ?_
      have hs63 : 64 - bl t ≤ 64 := Nat.sub_le _ _
      generalize 64 - bl t = s at *
      have ew : wrap64 (-(s : Int)) = -(s : Int) := w64 (by omega) (by omega)
      rw [ew]
      have g1 := Shift_neg_ev (dg_L M) (by omega) s (by omega)
      rw [vl_dg] at g1
      refine Ev.bind g1 ?_
      have g2 := Shift_neg_ev (dg_L A) (by omega) s (by omega)
      rw [vl_dg] at g2
      refine Ev.bind g2 ?_
      refine Ev.congr (fun k => if_pos ⟨by omega, by omega, by omega⟩) ?_
      have hVp : 0 < (dg (M * 2 ^ s)).getD (n + 1) 0 := by
        obtain ⟨v, v1, v2, _⟩ := dg_top s2
        rw [v1]
        exact Int.ofNat_lt.2 v2
      have hM0 : 0 < vl (dg (M * 2 ^ s)) := by
        rw [vl_dg]
        exact Nat.mul_pos h0 (Nat.two_pow_pos s)
      have hZ : L64 (dg (A * 2 ^ s) ++ [0, 0]) := Dig.append (dg_L _) (Dig.cons (by decide) (by decide) (Dig.cons (by decide) (by decide) (Dig.nil _)))
      have hZv : val 18446744073709551616 (dg (A * 2 ^ s) ++ [0, 0]) = A * 2 ^ s := by
        rw [val_append, show val 18446744073709551616 (dg (A * 2 ^ s)) = A * 2 ^ s from vl_dg _]
        simp [val]
      have hUv : vl ((dg (A * 2 ^ s) ++ [0, 0]).take ((dg A).length + 1)) = A * 2 ^ s := by
        unfold vl
        rw [← low_take _ _ _ (by rw [List.length_append]; simp; omega), (drop_zero (by decide) hZ _ (by rw [hZv, hla]; exact s5)).2, hZv]
      have hUl : ((dg (A * 2 ^ s) ++ [0, 0]).take ((dg A).length + 1)).length = la + 1 := by
        rw [List.length_take, List.length_append]
        simp
        omega
      obtain ⟨U', q', m1, m2, m3, m4, m5, m6, m7⟩ := many_ev (dg (M * 2 ^ s)) n (dg_L _) s2 hVp hM0 ((dg A).length - (dg M).length + 1) ((dg (A * 2 ^ s) ++ [0, 0]).take ((dg A).length + 1)) (List.replicate ((dg A).length - (dg M).length + 1) 0) (Dig.take hZ _) (Dig.zeros _ _ (by decide)) (by omega) (by omega) (by rw [hUv, vl_dg, hla, hn]; exact s6) (by rw [List.length_replicate]; exact Nat.le_refl _) (fun k hk => by simp [List.getD, hk])
      rw [hUv, vl_dg, Nat.mul_mod_mul_right] at m6
      rw [hUv, vl_dg, Nat.mul_div_mul_right _ _ (Nat.two_pow_pos s), show vl (List.replicate ((dg A).length - (dg M).length + 1) 0) = 0 from val_zeros _ _, Nat.zero_add] at m7
      rw [← hn] at m1
      refine Ev.bind m1 ?_
      have hq := Norm_ev m3 (by rw [m5, List.length_replicate]; omega)
      rw [m7] at hq
      refine Ev.bind hq ?_
      have hr := Shift_down_ev m2 (by omega) s (by omega)
      rw [m6, Nat.mul_div_cancel _ (Nat.two_pow_pos s)] at hr
      exact Ev.bind hr (Ev.now _)
end Go.Proofs.Ytgnaaaliadiekaa.Q
