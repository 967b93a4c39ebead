/- Plain numbers: lists of digits, least first, to a base; the one list of a number. No program in sight. -/
import Derived.RowKit
namespace Go.Proofs.Ytgnaaaliadiekaa.Q

/-- A list of digits as a number. -/
def val (B : Nat) : List Int → Nat
  | [] => 0
  | x :: l => x.toNat + B * val B l
/-- All digits are below the base. -/
def Dig (B : Nat) (l : List Int) : Prop := ∀ x ∈ l, 0 ≤ x ∧ x < (B : Int)
/-- A number's digits. -/
def digs (B : Nat) (n : Nat) : List Int :=
  if _h : n = 0 ∨ B ≤ 1 then [] else ((n % B : Nat) : Int) :: digs B (n / B)
termination_by n
decreasing_by exact Nat.div_lt_self (by omega) (by omega)

theorem Dig.nil (B : Nat) : Dig B [] := fun _ h => by cases h
theorem Dig.head {B : Nat} {x : Int} {l : List Int} (h : Dig B (x :: l)) : 0 ≤ x ∧ x < (B : Int) := h x List.mem_cons_self
theorem Dig.tail {B : Nat} {x : Int} {l : List Int} (h : Dig B (x :: l)) : Dig B l := fun y hy => h y (List.mem_cons_of_mem _ hy)
theorem Dig.cons {B : Nat} {x : Int} {l : List Int} (h0 : 0 ≤ x) (h1 : x < (B : Int)) (h : Dig B l) : Dig B (x :: l) := fun y hy => by
  rcases List.mem_cons.1 hy with rfl | hy
  · exact ⟨h0, h1⟩
  · exact h y hy
theorem Dig.append {B : Nat} {l m : List Int} (h : Dig B l) (k : Dig B m) : Dig B (l ++ m) := fun y hy => by
  rcases List.mem_append.1 hy with hy | hy
  · exact h y hy
  · exact k y hy
theorem Dig.left {B : Nat} {l m : List Int} (h : Dig B (l ++ m)) : Dig B l := fun y hy => h y (List.mem_append_left _ hy)
theorem Dig.right {B : Nat} {l m : List Int} (h : Dig B (l ++ m)) : Dig B m := fun y hy => h y (List.mem_append_right _ hy)
theorem Dig.take {B : Nat} {l : List Int} (h : Dig B l) (n : Nat) : Dig B (l.take n) := fun y hy => h y (List.mem_of_mem_take hy)
theorem Dig.drop {B : Nat} {l : List Int} (h : Dig B l) (n : Nat) : Dig B (l.drop n) := fun y hy => h y (List.mem_of_mem_drop hy)
theorem Dig.set {B : Nat} {l : List Int} (h : Dig B l) {n : Nat} {x : Int} (h0 : 0 ≤ x) (h1 : x < (B : Int)) : Dig B (l.set n x) := fun y hy => by
  rcases List.mem_or_eq_of_mem_set hy with hy | rfl
  · exact h y hy
  · exact ⟨h0, h1⟩
theorem Dig.zeros (B n : Nat) (hB : 0 < B) : Dig B (List.replicate n 0) := fun y hy => by
  rw [(List.mem_replicate.1 hy).2]
  omega
theorem Dig.getD {B : Nat} (hB : 0 < B) {l : List Int} (h : Dig B l) (n : Nat) : 0 ≤ l.getD n 0 ∧ l.getD n 0 < (B : Int) := by
  rw [List.getD_eq_getElem?_getD]
  rcases Nat.lt_or_ge n l.length with hn | hn
  · rw [List.getElem?_eq_getElem hn]
    exact h _ (List.getElem_mem hn)
  · rw [List.getElem?_eq_none hn]
    simp
    omega

theorem val_append (B : Nat) (l m : List Int) : val B (l ++ m) = val B l + B ^ l.length * val B m := by
  induction l with
  | nil => simp [val]
  | cons x l ih =>
    simp only [List.cons_append, val, ih, List.length_cons, Nat.pow_succ]
    rw [Nat.mul_add, Nat.add_assoc, ← Nat.mul_assoc, Nat.mul_comm B (B ^ l.length)]
theorem val_zeros (B n : Nat) : val B (List.replicate n 0) = 0 := by
  induction n with
  | zero => rfl
  | succ n ih => simp [List.replicate_succ, val, ih]
theorem val_lt {B : Nat} (hB : 0 < B) {l : List Int} (h : Dig B l) : val B l < B ^ l.length := by
  induction l with
  | nil => simp [val]
  | cons x l ih =>
    have h1 := ih h.tail
    have h2 := h.head
    simp only [val, List.length_cons, Nat.pow_succ]
    have h3 : x.toNat < B := by omega
    have h4 : B * (val B l + 1) ≤ B * B ^ l.length := Nat.mul_le_mul_left _ h1
    rw [Nat.mul_comm (B ^ l.length) B]
    rw [Nat.mul_add, Nat.mul_one] at h4
    omega
theorem val_take_drop (B : Nat) (l : List Int) (n : Nat) (hn : n ≤ l.length) : val B l = val B (l.take n) + B ^ n * val B (l.drop n) := by
  have h := val_append B (l.take n) (l.drop n)
  rw [List.take_append_drop, List.length_take, Nat.min_eq_left hn] at h
  exact h
/-- No digit of 0 above the greatest. -/
def Trim (l : List Int) : Prop := ∀ x, l.getLast? = some x → x ≠ 0
theorem Trim.nil : Trim [] := fun _ h => by cases h
theorem Trim.tail {x : Int} {l : List Int} (h : Trim (x :: l)) : Trim l := by
  intro y hy
  cases l with
  | nil => cases hy
  | cons z l => exact h y (by rw [List.getLast?_cons_cons]; exact hy)
theorem val_pos {B : Nat} (hB : 0 < B) {l : List Int} (h : Dig B l) (t : Trim l) (hl : l ≠ []) : 0 < val B l := by
  induction l with
  | nil => exact absurd rfl hl
  | cons x l ih =>
    cases l with
    | nil =>
      have h1 := t x rfl
      have h2 := h.head
      simp only [val]
      omega
    | cons y l =>
      have h1 := ih h.tail t.tail (by simp)
      have h2 : 0 < B * val B (y :: l) := Nat.mul_pos hB h1
      simp only [val] at h2 ⊢
      omega
theorem digs_zero (B : Nat) : digs B 0 = [] := by rw [digs]; simp
theorem digs_pos {B n : Nat} (hB : 1 < B) (hn : n ≠ 0) : digs B n = ((n % B : Nat) : Int) :: digs B (n / B) := by rw [digs, dif_neg (by omega)]
theorem digs_unique {B : Nat} (hB : 1 < B) {l : List Int} (h : Dig B l) (t : Trim l) : l = digs B (val B l) := by
  induction l with
  | nil => simp only [val]; rw [digs_zero]
  | cons x l ih =>
    have h2 := h.head
    have hp := val_pos (by omega) h t (by simp)
    rw [digs_pos hB (by omega)]
    have e1 : val B (x :: l) % B = x.toNat := by
      simp only [val]
      rw [Nat.add_mul_mod_self_left, Nat.mod_eq_of_lt (by omega)]
    have e2 : val B (x :: l) / B = val B l := by
      simp only [val]
      rw [Nat.add_mul_div_left _ _ (by omega), Nat.div_eq_of_lt (by omega), Nat.zero_add]
    rw [e1, e2, ← ih h.tail t.tail]
    congr 1
    omega
theorem val_digs {B : Nat} (hB : 1 < B) (n : Nat) : val B (digs B n) = n := by
  induction n using Nat.strongRecOn with
  | _ n ih =>
    by_cases hn : n = 0
    · subst hn; rw [digs_zero]; rfl
    · rw [digs_pos hB hn]
      simp only [val, Int.toNat_natCast]
      rw [ih (n / B) (Nat.div_lt_self (by omega) hB)]
      exact Nat.mod_add_div n B
theorem digs_Dig {B : Nat} (hB : 1 < B) (n : Nat) : Dig B (digs B n) := by
  induction n using Nat.strongRecOn with
  | _ n ih =>
    by_cases hn : n = 0
    · subst hn; rw [digs_zero]; exact Dig.nil B
    · rw [digs_pos hB hn]
      refine Dig.cons (by omega) ?_ (ih (n / B) (Nat.div_lt_self (by omega) hB))
      have := Nat.mod_lt n (show B > 0 by omega)
      omega
theorem digs_eq_nil {B n : Nat} (hB : 1 < B) : digs B n = [] ↔ n = 0 := by
  constructor
  · intro h
    have := val_digs hB n
    rw [h] at this
    exact this.symm
  · rintro rfl
    exact digs_zero B
theorem digs_Trim {B : Nat} (hB : 1 < B) (n : Nat) : Trim (digs B n) := by
  induction n using Nat.strongRecOn with
  | _ n ih =>
    by_cases hn : n = 0
    · subst hn; rw [digs_zero]; exact Trim.nil
    · rw [digs_pos hB hn]
      intro x hx
      by_cases hq : n / B = 0
      · rw [hq, digs_zero] at hx
        have : ((n % B : Nat) : Int) = x := by simpa using hx
        have h1 : n < B := (Nat.div_eq_zero_iff_lt (by omega)).1 hq
        rw [Nat.mod_eq_of_lt h1] at this
        omega
      · have hne : digs B (n / B) ≠ [] := fun h => hq ((digs_eq_nil hB).1 h)
        obtain ⟨y, l, e⟩ := List.exists_cons_of_ne_nil hne
        rw [e, List.getLast?_cons_cons, ← e] at hx
        exact ih (n / B) (Nat.div_lt_self (by omega) hB) x hx
theorem digs_length_le {B : Nat} (hB : 1 < B) : ∀ (k n : Nat), n < B ^ k → (digs B n).length ≤ k
  | 0, n, h => by
    have : n = 0 := by simpa using h
    subst this
    rw [digs_zero]
    exact Nat.le_refl _
  | k + 1, n, h => by
    by_cases hn : n = 0
    · subst hn; rw [digs_zero]; exact Nat.zero_le _
    · rw [digs_pos hB hn, List.length_cons]
      have := digs_length_le hB k (n / B) (by rw [Nat.div_lt_iff_lt_mul (by omega)]; rw [Nat.pow_succ] at h; exact h)
      omega
theorem lt_of_digs_length {B : Nat} (hB : 1 < B) (n : Nat) : n < B ^ (digs B n).length := by
  have h := val_lt (by omega) (digs_Dig hB n)
  rwa [val_digs hB] at h
theorem digs_length_lt {B n k : Nat} (hB : 1 < B) : (digs B n).length ≤ k ↔ n < B ^ k :=
  ⟨fun h => Nat.lt_of_lt_of_le (lt_of_digs_length hB n) (Nat.pow_le_pow_right (by omega) h), digs_length_le hB k n⟩
/-- A trimmed list's greatest digit: the number is at least that power. -/
theorem val_set {B : Nat} : ∀ (l : List Int) (n : Nat) (x : Int), n < l.length → val B (l.set n x) + B ^ n * (l.getD n 0).toNat = val B l + B ^ n * x.toNat
  | [], n, x, h => by simp at h
  | y :: l, 0, x, h => by simp [val]; omega
  | y :: l, n + 1, x, h => by
    have ih := val_set (B := B) l n x (by simpa using h)
    simp only [List.set_cons_succ, val, List.getD_cons_succ, Nat.pow_succ]
    have e : ∀ z : Nat, B ^ n * B * z = B * (B ^ n * z) := fun z => by rw [Nat.mul_comm (B ^ n) B, Nat.mul_assoc]
    rw [e, e]
    have h3 := congrArg (B * ·) ih
    simp only [Nat.mul_add] at h3
    omega
theorem take_succ_getD (l : List Int) (n : Nat) (h : n < l.length) : l.take (n + 1) = l.take n ++ [l.getD n 0] := by
  rw [List.take_succ_eq_append_getElem h]
  simp [List.getD, h]
theorem val_take_succ (B : Nat) (l : List Int) (n : Nat) (h : n < l.length) : val B (l.take (n + 1)) = val B (l.take n) + B ^ n * (l.getD n 0).toNat := by
  rw [take_succ_getD l n h, val_append, List.length_take, Nat.min_eq_left (by omega)]
  simp [val]
theorem val_drop (B : Nat) (l : List Int) (n : Nat) (h : n < l.length) : val B (l.drop n) = (l.getD n 0).toNat + B * val B (l.drop (n + 1)) := by
  rw [List.drop_eq_getElem_cons h]
  simp [val, List.getD, h]
end Go.Proofs.Ytgnaaaliadiekaa.Q
