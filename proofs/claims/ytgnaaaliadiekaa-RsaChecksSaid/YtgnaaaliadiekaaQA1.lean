/- What the program's and the reference's first functions on numbers compute, as plain numbers. -/
import Derived.Test.YtgnaaaliadiekaaBx0
import Derived.Test.YtgnaaaliadiekaaBx40
import Derived.Test.YtgnaaaliadiekaaBx43
import Derived.Test.YtgnaaaliadiekaaBx44
import Derived.Test.YtgnaaaliadiekaaBx55
import Derived.Test.YtgnaaaliadiekaaBx64
import Derived.Test.YtgnaaaliadiekaaBx71
import Derived.Test.YtgnaaaliadiekaaSapiNatuint64
import Derived.Test.YtgnaaaliadiekaaQA0
namespace Go.Proofs.Ytgnaaaliadiekaa.Q
open Go.RowKit Go.Proofs.Ytgnaaaliadiekaa.B Go.Proofs.YtgnaaaliadiekaaW.PrintWords Go.Proofs.YtgnaaaliadiekaaW.PrintLast Go.Proofs.YtgnaaaliadiekaaW.PrintMore
set_option linter.unusedVariables false

theorem w64 {x : Int} (h0 : -9223372036854775808 ≤ x) (h1 : x ≤ 9223372036854775807) : wrap64 x = x := by unfold wrap64; omega
theorem wu64 {x : Int} (h0 : 0 ≤ x) (h1 : x < 18446744073709551616) : IntKind.u64.wrap x = x := by
  show x % 18446744073709551616 = x
  omega
def vl (l : List Int) : Nat := val 18446744073709551616 l
def dg (n : Nat) : List Int := digs 18446744073709551616 n
def vd (l : List Int) : Nat := val 65536 l
def dd (n : Nat) : List Int := digs 65536 n
abbrev L64 (l : List Int) : Prop := Dig 18446744073709551616 l
abbrev L16 (l : List Int) : Prop := Dig 65536 l
theorem dg_L (n : Nat) : L64 (dg n) := digs_Dig (by omega) n
theorem dd_L (n : Nat) : L16 (dd n) := digs_Dig (by omega) n
theorem vl_dg (n : Nat) : vl (dg n) = n := val_digs (by omega) n
theorem vd_dd (n : Nat) : vd (dd n) = n := val_digs (by omega) n
theorem dg_len {n k : Nat} : (dg n).length ≤ k ↔ n < 18446744073709551616 ^ k := digs_length_lt (by omega)
theorem dd_len {n k : Nat} : (dd n).length ≤ k ↔ n < 65536 ^ k := digs_length_lt (by omega)
theorem rd_getD (l : List Int) (i : Nat) : rd l (i : Int) = l.getD i 0 := by simp [rd]
theorem Ev.same {α : Type} {g : Nat → Option α} {r r' : α} (h : Ev g r) (e : r = r') : Ev g r' := e ▸ h

theorem clone_ev {l : List Int} (h : l.length < 17592186044416) : api_Nat_uint64.f l = some l := by unfold api_Nat_uint64.f; rw [if_pos h]
theorem Norm_loop (l : List Int) (hL : L64 l) (hn : l.length < 17592186044416) : ∀ i : Nat, i ≤ l.length → Ev (fun k => nat_Norm.l0 k l (i : Int)) (dg (vl (l.take i)))
  | 0, _ => by
    refine Ev.step (f := fun _ => some []) (fun k => ?_) ?_
    · simp only [nat_Norm.l0]
      rw [if_neg (by omega), if_pos (by omega), if_pos (by omega)]
      simp only [Int.toNat_natCast, List.take_zero]
      rw [clone_ev (by simp)]
      rfl
    · simp only [List.take_zero, vl, val]
      unfold dg
      rw [digs_zero]
      exact Ev.now _
  | i + 1, hi => by
    have ih := Norm_loop l hL hn i (by omega)
    have e1 : wrap64 (((i + 1 : Nat) : Int) - 1) = (i : Int) := by rw [w64 (by omega) (by omega)]; omega
    have e2 := val_take_succ 18446744073709551616 l i (by omega)
    by_cases h0 : l.getD i 0 = 0
    · refine Ev.step (f := fun k => nat_Norm.l0 k l (i : Int)) (fun k => ?_) (Ev.same ih ?_)
      · simp only [nat_Norm.l0]
        rw [e1, if_pos (by omega), if_pos (by omega), if_pos (by omega), rd_getD, if_pos h0]
      · rw [h0] at e2
        unfold vl
        rw [e2]
        simp
    · refine Ev.step (f := fun _ => some (l.take (i + 1))) (fun k => ?_) (Ev.same (Ev.now _) ?_)
      · simp only [nat_Norm.l0]
        rw [e1, if_pos (by omega), if_pos (by omega), if_pos (by omega), rd_getD, if_neg h0, if_pos (by omega), if_pos (by omega)]
        rw [show (((i + 1 : Nat) : Int)).toNat = i + 1 from rfl, clone_ev (by rw [List.length_take]; omega)]
        rfl
      · refine digs_unique (by omega) (hL.take _) ?_
        intro x hx
        rw [take_succ_getD l i (by omega), List.getLast?_concat] at hx
        injection hx with hx
        rw [← hx]
        exact h0
theorem Norm_ev {l : List Int} (hL : L64 l) (hn : l.length < 17592186044416) : Ev (fun k => nat_Norm.f k l) (dg (vl l)) := by
  have h := Norm_loop l hL hn l.length (Nat.le_refl _)
  rw [List.take_length] at h
  exact h
theorem Of_ev {n : Int} (h0 : 0 ≤ n) (h1 : n < 18446744073709551616) : Ev (fun k => nat_Of.f k n) (dg n.toNat) := by
  unfold nat_Of.f
  refine Ev.bind (Norm_ev (Dig.cons h0 h1 (Dig.nil _)) (by simp)) ?_
  refine Ev.same (Ev.now _) ?_
  simp [vl, val]
theorem trim_loop (l : List Int) (hL : L16 l) (hn : l.length < 17592186044416) : ∀ i : Nat, i ≤ l.length → Ev (fun k => latchkeyref01_trim.l0 k l (i : Int)) (dd (vd (l.take i)))
  | 0, _ => by
    refine Ev.step (f := fun _ => some []) (fun k => ?_) ?_
    · simp only [latchkeyref01_trim.l0]
      rw [if_neg (by omega), if_pos (by omega), if_pos (by omega)]
      rfl
    · simp only [List.take_zero, vd, val]
      unfold dd
      rw [digs_zero]
      exact Ev.now _
  | i + 1, hi => by
    have ih := trim_loop l hL hn i (by omega)
    have e1 : wrap64 (((i + 1 : Nat) : Int) - 1) = (i : Int) := by rw [w64 (by omega) (by omega)]; omega
    have e2 := val_take_succ 65536 l i (by omega)
    by_cases h0 : l.getD i 0 = 0
    · refine Ev.step (f := fun k => latchkeyref01_trim.l0 k l (i : Int)) (fun k => ?_) (Ev.same ih ?_)
      · simp only [latchkeyref01_trim.l0]
        rw [e1, if_pos (by omega), if_pos (by omega), if_pos (by omega), rd_getD, if_pos h0]
      · rw [h0] at e2
        unfold vd
        rw [e2]
        simp
    · refine Ev.step (f := fun _ => some (l.take (i + 1))) (fun k => ?_) (Ev.same (Ev.now _) ?_)
      · simp only [latchkeyref01_trim.l0]
        rw [e1, if_pos (by omega), if_pos (by omega), if_pos (by omega), rd_getD, if_neg h0, if_pos (by omega), if_pos (by omega)]
        rfl
      · refine digs_unique (by omega) (hL.take _) ?_
        intro x hx
        rw [take_succ_getD l i (by omega), List.getLast?_concat] at hx
        injection hx with hx
        rw [← hx]
        exact h0
theorem trim_ev {l : List Int} (hL : L16 l) (hn : l.length < 17592186044416) : Ev (fun k => latchkeyref01_trim.f k l) (dd (vd l)) := by
  have h := trim_loop l hL hn l.length (Nat.le_refl _)
  rw [List.take_length] at h
  exact h
theorem limb_some {l : List Int} (hn : l.length < 17592186044416) (i : Nat) : nat_limb.f l (i : Int) = some (l.getD i 0) := by
  unfold nat_limb.f
  by_cases h : i < l.length
  · rw [if_pos (by omega), if_pos (by omega), rd_getD]
  · rw [if_neg (by omega), List.getD_eq_getElem?_getD, List.getElem?_eq_none (by omega)]
    rfl
/-- How a number stands to another one. -/
def cmp3 (a b : Nat) : Int := if a < b then -1 else if b < a then 1 else 0
theorem pad_val (B : Nat) (l : List Int) (m : Nat) : ∀ i : Nat, i ≤ m → val B ((List.range i).map fun j => l.getD j 0) + B ^ i * val B (l.drop i) = val B l
  | 0, _ => by simp [val]
  | i + 1, hi => by
    have ih := pad_val B l m i (by omega)
    rw [List.range_succ, List.map_append, val_append]
    simp only [List.map_cons, List.map_nil, List.length_map, List.length_range, val]
    by_cases h : i < l.length
    · rw [val_drop B l i h] at ih
      rw [Nat.pow_succ, Nat.mul_assoc, Nat.add_assoc, ← Nat.mul_add]
      rw [Nat.mul_zero, Nat.add_zero]
      exact ih
    · rw [List.drop_eq_nil_of_le (by omega)] at ih ⊢
      rw [List.getD_eq_getElem?_getD, List.getElem?_eq_none (by omega)]
      simp only [val] at ih ⊢
      simpa using ih
/-- the number of the limbs below i -/
def low (B : Nat) (l : List Int) : Nat → Nat
  | 0 => 0
  | i + 1 => low B l i + B ^ i * (l.getD i 0).toNat
theorem low_lt {B : Nat} (hB : 0 < B) {l : List Int} (h : Dig B l) : ∀ i, low B l i < B ^ i
  | 0 => by simp [low]
  | i + 1 => by
    have ih := low_lt hB h i
    have h1 := Dig.getD hB h i
    simp only [low, Nat.pow_succ]
    have h2 : (l.getD i 0).toNat + 1 ≤ B := by omega
    have h3 : B ^ i * ((l.getD i 0).toNat + 1) ≤ B ^ i * B := Nat.mul_le_mul_left _ h2
    rw [Nat.mul_add, Nat.mul_one] at h3
    omega
theorem low_val (B : Nat) (l : List Int) : ∀ i, low B l i + B ^ i * val B (l.drop i) = val B l
  | 0 => by simp [low]
  | i + 1 => by
    have ih := low_val B l i
    simp only [low]
    by_cases h : i < l.length
    · rw [val_drop B l i h] at ih
      rw [Nat.pow_succ, Nat.mul_assoc, Nat.add_assoc, ← Nat.mul_add]
      exact ih
    · rw [List.drop_eq_nil_of_le (by omega)] at ih ⊢
      rw [List.getD_eq_getElem?_getD, List.getElem?_eq_none (by omega)]
      simp only [val] at ih ⊢
      simpa using ih
theorem low_all (B : Nat) (l : List Int) {i : Nat} (h : l.length ≤ i) : low B l i = val B l := by
  have e := low_val B l i
  rw [List.drop_eq_nil_of_le h] at e
  simpa [val] using e
theorem low_take (B : Nat) (l : List Int) (i : Nat) (h : i ≤ l.length) : low B l i = val B (l.take i) := by
  have e := low_val B l i
  have e2 := val_take_drop B l i h
  omega
theorem cmp3_step {B x y p q n : Nat} (hp : p < n) (hq : q < n) : (x < y → cmp3 (p + n * x) (q + n * y) = -1) ∧ (y < x → cmp3 (p + n * x) (q + n * y) = 1) ∧ (x = y → cmp3 (p + n * x) (q + n * y) = cmp3 p q) := by
  refine ⟨fun h => ?_, fun h => ?_, fun h => ?_⟩
  · have h1 : n * (x + 1) ≤ n * y := Nat.mul_le_mul_left _ h
    rw [Nat.mul_add, Nat.mul_one] at h1
    unfold cmp3
    rw [if_pos (by omega)]
  · have h1 : n * (y + 1) ≤ n * x := Nat.mul_le_mul_left _ h
    rw [Nat.mul_add, Nat.mul_one] at h1
    unfold cmp3
    rw [if_neg (by omega), if_pos (by omega)]
  · subst h
    unfold cmp3
    simp only [Nat.add_lt_add_iff_right]
theorem Cmp_loop (a b : List Int) (hA : L64 a) (hB : L64 b) (ha : a.length < 17592186044416) (hb : b.length < 17592186044416) : ∀ i : Nat, i < 17592186044416 → Ev (fun k => nat_Cmp.l0 k a b ((i : Int) - 1)) (cmp3 (low 18446744073709551616 a i) (low 18446744073709551616 b i))
  | 0, _ => by
    refine Ev.step (f := fun _ => some 0) (fun k => ?_) (Ev.same (Ev.now _) rfl)
    simp only [nat_Cmp.l0]
    rw [if_neg (by omega)]
  | i + 1, hi => by
    have ih := Cmp_loop a b hA hB ha hb i (by omega)
    have e0 : ((i + 1 : Nat) : Int) - 1 = (i : Int) := by omega
    have e1 : wrap64 ((i : Int) - 1) = (i : Int) - 1 := w64 (by omega) (by omega)
    rw [e0]
    have g1 := Dig.getD (by omega) hA i
    have g2 := Dig.getD (by omega) hB i
    obtain ⟨c1, c2, c3⟩ := cmp3_step (B := 0) (x := (a.getD i 0).toNat) (y := (b.getD i 0).toNat) (low_lt (by omega) hA i) (low_lt (by omega) hB i)
    by_cases hlt : a.getD i 0 < b.getD i 0
    · refine Ev.step (f := fun _ => some (-1)) (fun k => ?_) (Ev.same (Ev.now _) (c1 (by omega)).symm)
      simp only [nat_Cmp.l0]
      rw [if_pos (by omega), limb_some ha, limb_some hb]
      simp only [Option.bind_some]
      rw [if_pos hlt]
    · by_cases hgt : b.getD i 0 < a.getD i 0
      · refine Ev.step (f := fun _ => some 1) (fun k => ?_) (Ev.same (Ev.now _) (c2 (by omega)).symm)
        simp only [nat_Cmp.l0]
        rw [if_pos (by omega), limb_some ha, limb_some hb]
        simp only [Option.bind_some]
        rw [if_neg hlt, if_pos hgt]
      · refine Ev.step (f := fun k => nat_Cmp.l0 k a b ((i : Int) - 1)) (fun k => ?_) (Ev.same ih (c3 (by omega)).symm)
        simp only [nat_Cmp.l0]
        rw [if_pos (by omega), limb_some ha, limb_some hb]
        simp only [Option.bind_some]
        rw [if_neg hlt, if_neg hgt, e1]
theorem mx_nat (a b : Nat) : mx (a : Int) (b : Int) = ((max a b : Nat) : Int) := by unfold mx; split <;> omega
theorem Cmp_ev {a b : List Int} (hA : L64 a) (hB : L64 b) (ha : a.length < 17592186044416) (hb : b.length < 17592186044416) : Ev (fun k => nat_Cmp.f k a b) (cmp3 (vl a) (vl b)) := by
  unfold nat_Cmp.f
  rw [mx_nat, w64 (by omega) (by omega)]
  have h := Cmp_loop a b hA hB ha hb (max a.length b.length) (by omega)
  rw [low_all _ a (by omega), low_all _ b (by omega)] at h
  exact h
theorem rcmp_loop (a b : List Int) (hA : L16 a) (hB : L16 b) (ha : a.length < 17592186044416) (hab : a.length = b.length) : ∀ i : Nat, i ≤ a.length → Ev (fun k => latchkeyref01_Cmp.l0 k a b ((i : Int) - 1)) (cmp3 (low 65536 a i) (low 65536 b i))
  | 0, _ => by
    refine Ev.step (f := fun _ => some 0) (fun k => ?_) (Ev.same (Ev.now _) rfl)
    simp only [latchkeyref01_Cmp.l0]
    rw [if_neg (by omega)]
  | i + 1, hi => by
    have ih := rcmp_loop a b hA hB ha hab i (by omega)
    have e0 : ((i + 1 : Nat) : Int) - 1 = (i : Int) := by omega
    have e1 : wrap64 ((i : Int) - 1) = (i : Int) - 1 := w64 (by omega) (by omega)
    rw [e0]
    have g1 := Dig.getD (by omega) hA i
    have g2 := Dig.getD (by omega) hB i
    obtain ⟨c1, c2, c3⟩ := cmp3_step (B := 0) (x := (a.getD i 0).toNat) (y := (b.getD i 0).toNat) (low_lt (by omega) hA i) (low_lt (by omega) hB i)
    by_cases hlt : a.getD i 0 < b.getD i 0
    · refine Ev.step (f := fun _ => some (-1)) (fun k => ?_) (Ev.same (Ev.now _) (c1 (by omega)).symm)
      simp only [latchkeyref01_Cmp.l0]
      rw [if_pos (by omega), if_pos (by omega), if_pos (by omega), if_pos (by omega), rd_getD, rd_getD, if_pos hlt]
    · by_cases hgt : b.getD i 0 < a.getD i 0
      · refine Ev.step (f := fun _ => some 1) (fun k => ?_) (Ev.same (Ev.now _) (c2 (by omega)).symm)
        simp only [latchkeyref01_Cmp.l0]
        rw [if_pos (by omega), if_pos (by omega), if_pos (by omega), if_pos (by omega), rd_getD, rd_getD, if_neg hlt, if_pos hgt]
      · refine Ev.step (f := fun k => latchkeyref01_Cmp.l0 k a b ((i : Int) - 1)) (fun k => ?_) (Ev.same ih (c3 (by omega)).symm)
        simp only [latchkeyref01_Cmp.l0]
        rw [if_pos (by omega), if_pos (by omega), if_pos (by omega), if_pos (by omega), rd_getD, rd_getD, if_neg hlt, if_neg hgt, e1]
theorem len_lt_dd {m n : Nat} (h : (dd m).length < (dd n).length) : m < n := by
  rcases Nat.lt_or_ge m n with h1 | h1
  · exact h1
  · have h2 : n < 65536 ^ (dd m).length := Nat.lt_of_le_of_lt h1 (dd_len.1 (Nat.le_refl _))
    have h3 := dd_len.2 h2
    omega
theorem rcmp_ev (m n : Nat) (hm : (dd m).length < 17592186044416) : Ev (fun k => latchkeyref01_Cmp.f k (dd m) (dd n)) (cmp3 m n) := by
  unfold latchkeyref01_Cmp.f
  by_cases h : (dd m).length = (dd n).length
  · have h2 := rcmp_loop (dd m) (dd n) (dd_L m) (dd_L n) hm h (dd m).length (Nat.le_refl _)
    rw [low_all _ (dd m) (Nat.le_refl _), low_all _ (dd n) (by omega)] at h2
    rw [show val 65536 (dd m) = m from vd_dd m, show val 65536 (dd n) = n from vd_dd n] at h2
    refine Ev.congr (fun k => ?_) h2
    rw [if_pos (by omega), w64 (by omega) (by omega)]
  · rcases Nat.lt_or_gt_of_ne h with h | h
    · refine Ev.congr (fun k => ?_) (Ev.same (Ev.now (-1)) (by unfold cmp3; rw [if_pos (len_lt_dd h)]))
      rw [if_neg (by omega), if_pos (by omega)]
    · have h1 := len_lt_dd h
      refine Ev.congr (fun k => ?_) (Ev.same (Ev.now 1) (by unfold cmp3; rw [if_neg (by omega), if_pos h1]))
      rw [if_neg (by omega), if_neg (by omega)]
end Go.Proofs.Ytgnaaaliadiekaa.Q
