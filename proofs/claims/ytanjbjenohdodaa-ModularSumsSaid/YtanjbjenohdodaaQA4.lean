/- Sums, differences, products: the program's and the reference's. -/
import Derived.Test.YtanjbjenohdodaaBx0
import Derived.Test.YtanjbjenohdodaaBx1
import Derived.Test.YtanjbjenohdodaaBx14
import Derived.Test.YtanjbjenohdodaaSIntr
import Derived.Test.YtanjbjenohdodaaQA3
namespace Go.Proofs.Ytanjbjenohdodaa.Q
open Go.RowKit Go.Proofs.Ytanjbjenohdodaa.B Go.Proofs.YtanjbjenohdodaaW.PrintWords Go.Proofs.YtanjbjenohdodaaW.PrintLast Go.Proofs.YtanjbjenohdodaaW.PrintMore
set_option linter.unusedVariables false

theorem adds_nat (x y c : Nat) : add64s (x : Int) (y : Int) (c : Int) = (((x + y + c) % 18446744073709551616 : Nat) : Int) := by simp [add64s]
theorem addc_nat (x y c : Nat) : add64c (x : Int) (y : Int) (c : Int) = (((x + y + c) / 18446744073709551616 : Nat) : Int) := by simp [add64c]
theorem getD_nat {B : Nat} (hB : 0 < B) {l : List Int} (h : Dig B l) (i : Nat) : ∃ x : Nat, l.getD i 0 = (x : Int) ∧ x < B := by
  have g := Dig.getD hB h i
  obtain ⟨x, hx⟩ := Int.eq_ofNat_of_zero_le g.1
  exact ⟨x, hx, by have := g.2; rw [hx] at this; exact Int.ofNat_lt.1 this⟩
theorem low_set_ge {B : Nat} (l : List Int) (n : Nat) (x : Int) : ∀ i, i ≤ n → low B (l.set n x) i = low B l i
  | 0, _ => rfl
  | i + 1, h => by
    simp only [low]
    rw [low_set_ge l n x i (by omega), List.getD_eq_getElem?_getD, List.getD_eq_getElem?_getD, List.getElem?_set_ne (by omega)]
theorem getD_set_self (l : List Int) (n : Nat) (x : Int) (h : n < l.length) : (l.set n x).getD n 0 = x := by
  rw [List.getD_eq_getElem?_getD, List.getElem?_set_self h]
  rfl
theorem low_set_at {B : Nat} (l : List Int) (n : Nat) (x : Int) (h : n < l.length) : low B (l.set n x) (n + 1) = low B l n + B ^ n * x.toNat := by
  simp only [low]
  rw [low_set_ge l n x n (Nat.le_refl _), getD_set_self l n x h]
theorem Add_loop (a b : List Int) (hA : L64 a) (hB : L64 b) (ha : a.length < 1099511627776) (hb : b.length < 1099511627776) (n : Nat) (hn : n = max a.length b.length) : ∀ (d i c : Nat) (out : List Int), i + d = n → out.length = n + 1 → L64 out → c ≤ 1 →
    low 18446744073709551616 out i + 18446744073709551616 ^ i * c = low 18446744073709551616 a i + low 18446744073709551616 b i →
    Ev (fun k => nat_Add.l0 k a b (n : Int) out (c : Int) (n : Int) (i : Int)) (dg (vl a + vl b))
  | 0, i, c, out, hd, ho, hO, hc, hv => by
    refine Ev.step (f := fun k => (nat_Norm.f k (out.set n (c : Int))).bind fun t => some t) (fun k => ?_) ?_
    · simp only [nat_Add.l0]
      rw [if_neg (by omega), if_pos (by omega), if_pos (by omega)]
      rfl
    · refine Ev.bind (Norm_ev (Dig.set hO (by omega) (by omega)) (by rw [List.length_set]; omega)) (Ev.same (Ev.now _) ?_)
      have e := low_set_at (B := 18446744073709551616) out n (c : Int) (by omega)
      rw [low_all _ _ (by rw [List.length_set]; omega)] at e
      have hi : i = n := by omega
      subst hi
      rw [low_all _ a (by omega), low_all _ b (by omega)] at hv
      show dg (val 18446744073709551616 _) = _
      rw [e, Int.toNat_natCast, hv]
      rfl
  | d + 1, i, c, out, hd, ho, hO, hc, hv => by
    obtain ⟨x, hx, hx2⟩ := getD_nat (by omega) hA i
    obtain ⟨y, hy, hy2⟩ := getD_nat (by omega) hB i
    refine Ev.step (f := fun k => nat_Add.l0 k a b (n : Int) (out.set i (((x + y + c) % 18446744073709551616 : Nat) : Int)) (((x + y + c) / 18446744073709551616 : Nat) : Int) (n : Int) ((i + 1 : Nat) : Int)) (fun k => ?_)
      (Add_loop a b hA hB ha hb n hn d (i + 1) _ _ (by omega) (by rw [List.length_set]; exact ho) (Dig.set hO (by omega) (by omega)) (by omega) ?_)
    · simp only [nat_Add.l0]
      rw [if_pos (by omega), limb_some (by omega), limb_some (by omega), hx, hy]
      simp only [Option.bind_some, Int.toNat_natCast]
      rw [if_pos hc, if_pos (by omega), if_pos (by omega), adds_nat, addc_nat, w64 (by omega) (by omega)]
      rfl
    · rw [low_set_at out i _ (by omega), Int.toNat_natCast, Nat.pow_succ]
      simp only [low]
      rw [hx, hy, Int.toNat_natCast, Int.toNat_natCast]
      generalize 18446744073709551616 ^ i = P at *
      have h1 := Nat.mod_add_div (x + y + c) 18446744073709551616
      generalize (x + y + c) % 18446744073709551616 = s at *
      generalize (x + y + c) / 18446744073709551616 = t at *
      have h2 := congrArg (P * ·) h1
      simp only [Nat.mul_add] at h2
      rw [Nat.mul_assoc]
      omega
theorem Add_ev {a b : List Int} (hA : L64 a) (hB : L64 b) (ha : a.length < 1099511627776) (hb : b.length < 1099511627776) : Ev (fun k => nat_Add.f k a b) (dg (vl a + vl b)) := by
  unfold nat_Add.f
  simp only [mx_nat]
  rw [w64 (by omega) (by omega)]
  refine Ev.congr (fun k => (if_pos (by omega)).trans (if_pos (by omega))) ?_
  refine Add_loop a b hA hB ha hb (max a.length b.length) rfl (max a.length b.length) 0 0 _ (by omega) ?_ (Dig.zeros _ _ (by omega)) (by omega) rfl
  rw [List.length_replicate]
  omega
/-- The last list, as it stands when a sum of the reference ends. -/
theorem rAdd_step (a b : List Int) (hA : L16 a) (hB : L16 b) (ha : a.length < 1099511627776) (hb : b.length < 1099511627776) (i c : Nat) (out r : List Int) (hi : i < 1099511627777) (ho : out.length = i) (hc : c ≤ 1) (hgo : i < a.length ∨ i < b.length ∨ 0 < c) (x y : Nat) (hx : a.getD i 0 = (x : Int)) (hy : b.getD i 0 = (y : Int))
    (h : Ev (fun k => latchkeyref01_Add.l0 k a b (out ++ [(((c + x + y) % 65536 : Nat) : Int)]) (((c + x + y) / 65536 : Nat) : Int) ((i + 1 : Nat) : Int)) r) : Ev (fun k => latchkeyref01_Add.l0 k a b out (c : Int) (i : Int)) r := by
  have gx := Dig.getD (by omega) hA i
  have gy := Dig.getD (by omega) hB i
  rw [hx] at gx
  rw [hy] at gy
  refine Ev.step (f := fun k => latchkeyref01_Add.j1 k a b out (c : Int) (i : Int) true) (fun k => ?_) ?_
  · simp only [latchkeyref01_Add.l0]
    by_cases h1 : i < a.length
    · rw [if_pos (by omega)]
    · rw [if_neg (by omega)]
      by_cases h2 : i < b.length
      · rw [if_pos (by omega)]
      · rw [if_neg (by omega), decide_eq_true (by omega)]
  · refine Ev.step (fun k => ?_) h
    simp only [latchkeyref01_Add.j1]
    rw [if_pos trivial]
    by_cases h1 : i < a.length
    · rw [if_pos (by omega), if_pos (by omega)]
      by_cases h2 : i < b.length
      · rw [if_pos (by omega), if_pos (by omega), rd_getD, rd_getD, hx, hy, w64 (x := (c : Int) + (x : Int)) (by omega) (by omega), w64 (x := (c : Int) + (x : Int) + (y : Int)) (by omega) (by omega), show ((c : Int) + (x : Int) + (y : Int)) = ((c + x + y : Nat) : Int) from by omega,
          show Int.tmod ((c + x + y : Nat) : Int) 65536 = (((c + x + y) % 65536 : Nat) : Int) from tmod_nat _ 65536, show Int.tdiv ((c + x + y : Nat) : Int) 65536 = (((c + x + y) / 65536 : Nat) : Int) from tdiv_nat _ 65536, w64 (by omega) (by omega), w64 (by omega) (by omega)]
        rfl
      · have hy0 : y = 0 := by
          rw [List.getD_eq_getElem?_getD, List.getElem?_eq_none (by omega)] at hy
          simp at hy
          omega
        subst hy0
        rw [if_neg (by omega), if_pos (by omega), rd_getD, hx, w64 (x := (c : Int) + (x : Int)) (by omega) (by omega), show ((c : Int) + (x : Int)) = ((c + x + 0 : Nat) : Int) from by omega,
          show Int.tmod ((c + x + 0 : Nat) : Int) 65536 = (((c + x + 0) % 65536 : Nat) : Int) from tmod_nat _ 65536, show Int.tdiv ((c + x + 0 : Nat) : Int) 65536 = (((c + x + 0) / 65536 : Nat) : Int) from tdiv_nat _ 65536, w64 (by omega) (by omega), w64 (by omega) (by omega)]
        rfl
    · have hx0 : x = 0 := by
        rw [List.getD_eq_getElem?_getD, List.getElem?_eq_none (by omega)] at hx
        simp at hx
        omega
      subst hx0
      rw [if_neg (by omega)]
      by_cases h2 : i < b.length
      · rw [if_pos (by omega), if_pos (by omega), if_pos (by omega), rd_getD, hy, w64 (x := (c : Int) + (y : Int)) (by omega) (by omega), show ((c : Int) + (y : Int)) = ((c + 0 + y : Nat) : Int) from by omega,
          show Int.tmod ((c + 0 + y : Nat) : Int) 65536 = (((c + 0 + y) % 65536 : Nat) : Int) from tmod_nat _ 65536, show Int.tdiv ((c + 0 + y : Nat) : Int) 65536 = (((c + 0 + y) / 65536 : Nat) : Int) from tdiv_nat _ 65536, w64 (by omega) (by omega), w64 (by omega) (by omega)]
        rfl
      · have hy0 : y = 0 := by
          rw [List.getD_eq_getElem?_getD, List.getElem?_eq_none (by omega)] at hy
          simp at hy
          omega
        subst hy0
        rw [if_neg (by omega), if_pos (by omega), show (c : Int) = ((c + 0 + 0 : Nat) : Int) from by omega,
          show Int.tmod ((c + 0 + 0 : Nat) : Int) 65536 = (((c + 0 + 0) % 65536 : Nat) : Int) from tmod_nat _ 65536, show Int.tdiv ((c + 0 + 0 : Nat) : Int) 65536 = (((c + 0 + 0) / 65536 : Nat) : Int) from tdiv_nat _ 65536, w64 (by omega) (by omega), w64 (by omega) (by omega)]
        rfl
theorem trim_low {B : Nat} (hB : 0 < B) {l : List Int} (h : Dig B l) (ht : Trim l) (hl : l ≠ []) : B ^ (l.length - 1) ≤ val B l := by
  have hp : 0 < l.length := List.length_pos_iff.2 hl
  have e := val_take_succ B l (l.length - 1) (by omega)
  rw [Nat.sub_add_cancel hp, List.take_length] at e
  have g := Dig.getD hB h (l.length - 1)
  have hne : l.getD (l.length - 1) 0 ≠ 0 := ht _ (by rw [List.getLast?_eq_getElem?, List.getD_eq_getElem?_getD, List.getElem?_eq_getElem (by omega)]; rfl)
  have h2 : B ^ (l.length - 1) * 1 ≤ B ^ (l.length - 1) * (l.getD (l.length - 1) 0).toNat := Nat.mul_le_mul_left _ (by omega)
  omega
theorem getD_zero {l : List Int} {i : Nat} (h : l.length ≤ i) : l.getD i 0 = 0 := by
  rw [List.getD_eq_getElem?_getD, List.getElem?_eq_none h]
  rfl
theorem rAdd_loop (m n : Nat) (ha : (dd m).length < 1099511627776) (hb : (dd n).length < 1099511627776) : ∀ (d i c : Nat) (out : List Int), i + d = max (dd m).length (dd n).length → out.length = i → L16 out → c ≤ 1 →
    vd out + 65536 ^ i * c = low 65536 (dd m) i + low 65536 (dd n) i →
    Ev (fun k => latchkeyref01_Add.l0 k (dd m) (dd n) out (c : Int) (i : Int)) (dd (m + n))
  | 0, i, c, out, hd, ho, hO, hc, hv => by
    rw [low_all _ (dd m) (by omega), low_all _ (dd n) (by omega), show val 65536 (dd m) = m from vd_dd m, show val 65536 (dd n) = n from vd_dd n] at hv
    have fin : ∀ (o : List Int) (j : Nat), o.length = j → L16 o → vd o = m + n → (j = i ∨ 65536 ^ (j - 1) ≤ m + n) → (dd m).length ≤ j → (dd n).length ≤ j → j < 1099511627777 → Ev (fun k => latchkeyref01_Add.l0 k (dd m) (dd n) o 0 (j : Int)) (dd (m + n)) := by
      intro o j hj hO2 hv2 hq h1 h2 h3
      refine Ev.step (f := fun k => latchkeyref01_Add.j1 k (dd m) (dd n) o 0 (j : Int) false) (fun k => ?_) ?_
      · simp only [latchkeyref01_Add.l0]
        rw [if_neg (by omega), if_neg (by omega)]
        rfl
      · refine Ev.step (f := fun _ => some o) (fun k => ?_) (Ev.same (Ev.now _) ?_)
        · simp only [latchkeyref01_Add.j1]
          rw [if_neg (by simp)]
        · rw [← hv2]
          refine digs_unique (by omega) hO2 ?_
          by_cases hne : o = []
          · subst hne
            exact Trim.nil
          · refine trim_of_le (by omega) hO2 ?_
            have hv3 : val 65536 o = m + n := hv2
            rw [hv3, hj]
            rcases hq with hq | hq
            · have hjp : 0 < j := by rw [← hj]; exact List.length_pos_iff.2 hne
              have hm1 : (dd m).length = j ∨ (dd n).length = j := by omega
              rcases hm1 with hm1 | hm1
              · have := trim_low (by omega) (dd_L m) (digs_Trim (by omega) m) (by intro h0; rw [h0] at hm1; simp at hm1; omega)
                rw [hm1, show val 65536 (dd m) = m from vd_dd m] at this
                omega
              · have := trim_low (by omega) (dd_L n) (digs_Trim (by omega) n) (by intro h0; rw [h0] at hm1; simp at hm1; omega)
                rw [hm1, show val 65536 (dd n) = n from vd_dd n] at this
                omega
            · exact hq
    rcases Nat.eq_zero_or_pos c with h0 | h0
    · subst h0
      exact fin out i ho hO (by simpa using hv) (.inl rfl) (by omega) (by omega) (by omega)
    · have hc1 : c = 1 := by omega
      subst hc1
      refine rAdd_step _ _ (dd_L m) (dd_L n) ha hb i 1 out _ (by omega) ho (by omega) (.inr (.inr (by omega))) 0 0 (getD_zero (by omega)) (getD_zero (by omega)) ?_
      refine fin (out ++ [1]) (i + 1) (by simp [ho]) (Dig.append hO (Dig.cons (by omega) (by omega) (Dig.nil _))) ?_ (.inr ?_) (by omega) (by omega) (by omega)
      · unfold vd at hv ⊢
        rw [val_append, ho]
        simp only [val]
        simpa using hv
      · rw [Nat.add_sub_cancel]
        omega
  | d + 1, i, c, out, hd, ho, hO, hc, hv => by
    obtain ⟨x, hx, hx2⟩ := getD_nat (by omega) (dd_L m) i
    obtain ⟨y, hy, hy2⟩ := getD_nat (by omega) (dd_L n) i
    refine rAdd_step _ _ (dd_L m) (dd_L n) ha hb i c out _ (by omega) ho hc (by omega) x y hx hy ?_
    refine rAdd_loop m n ha hb d (i + 1) _ _ (by omega) (by simp [ho]) (Dig.append hO (Dig.cons (by omega) (by omega) (Dig.nil _))) (by omega) ?_
    unfold vd at hv ⊢
    rw [val_append, ho]
    simp only [low, val]
    rw [hx, hy, Nat.pow_succ, Int.toNat_natCast, Int.toNat_natCast, Int.toNat_natCast]
    generalize 65536 ^ i = P at *
    have h1 := Nat.mod_add_div (c + x + y) 65536
    generalize (c + x + y) % 65536 = s at *
    generalize (c + x + y) / 65536 = t at *
    have h2 := congrArg (P * ·) h1
    simp only [Nat.mul_add] at h2
    rw [Nat.mul_zero, Nat.add_zero, Nat.mul_assoc]
    omega
theorem rAdd_ev (m n : Nat) (ha : (dd m).length < 1099511627776) (hb : (dd n).length < 1099511627776) : Ev (fun k => latchkeyref01_Add.f k (dd m) (dd n)) (dd (m + n)) :=
  rAdd_loop m n ha hb (max (dd m).length (dd n).length) 0 0 [] (by omega) rfl (Dig.nil _) (by omega) rfl
end Go.Proofs.Ytanjbjenohdodaa.Q
