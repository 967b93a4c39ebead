/- A part of the proof (merged by pack.py, a program of this session: what the row's proof names). -/
import Derived.Test.YtgnaaaliadiekaaM4
import Derived.Test.YtgnaaaliadiekaaM5
import Derived.Test.YtgnaaaliadiekaaM10
import Derived.Test.YtgnaaaliadiekaaM11
import Derived.Test.YtgnaaaliadiekaaM13
import Derived.Test.YtgnaaaliadiekaaM14
import Derived.Test.YtgnaaaliadiekaaM0
import Derived.Lib.BitFns
import Derived.RowKit
section
namespace Go.Proofs.Ytgnaaaliadiekaa.Q
def val (B : Nat) : List Int → Nat
 | [] => 0
 | x :: l => x.toNat + B * val B l
def Dig (B : Nat) (l : List Int) : Prop := ∀ x ∈ l, 0 ≤ x ∧ x < (B : Int)
def digs (B : Nat) (n : Nat) : List Int :=
 if _h : n = 0 ∨ B ≤ 1 then [] else ((n % B : Nat) : Int) :: digs B (n / B)
termination_by n
decreasing_by exact Nat.div_lt_self (by omega) (by omega)
theorem Dig.nil (B : Nat) : Dig B [] := fun _ h => by cases h
theorem Dig.head {B : Nat} {x : Int} {l : List Int} (h : Dig B (x :: l)) : 0 ≤ x ∧ x < (B : Int) := h x List.mem_cons_self
theorem Dig.tail {B : Nat} {x : Int} {l : List Int} (h : Dig B (x :: l)) : Dig B l := fun y hy => h y (List.mem_cons_of_mem _ hy)
theorem Dig.cons {B : Nat} {x : Int} {l : List Int} (h0 : 0 ≤ x) (h1 : x < (B : Int)) (h : Dig B l) : Dig B (x :: l) := fun y hy => by
 rcases List.mem_cons.1 hy with rfl | hy
 · exact ⟨h0, h1⟩
 · exact h y hy
theorem Dig.append {B : Nat} {l m : List Int} (h : Dig B l) (k : Dig B m) : Dig B (l ++ m) := fun y hy => by
 rcases List.mem_append.1 hy with hy | hy
 · exact h y hy
 · exact k y hy
theorem Dig.take {B : Nat} {l : List Int} (h : Dig B l) (n : Nat) : Dig B (l.take n) := fun y hy => h y (List.mem_of_mem_take hy)
theorem Dig.drop {B : Nat} {l : List Int} (h : Dig B l) (n : Nat) : Dig B (l.drop n) := fun y hy => h y (List.mem_of_mem_drop hy)
theorem Dig.set {B : Nat} {l : List Int} (h : Dig B l) {n : Nat} {x : Int} (h0 : 0 ≤ x) (h1 : x < (B : Int)) : Dig B (l.set n x) := fun y hy => by
 rcases List.mem_or_eq_of_mem_set hy with hy | rfl
 · exact h y hy
 · exact ⟨h0, h1⟩
theorem Dig.zeros (B n : Nat) (hB : 0 < B) : Dig B (List.replicate n 0) := fun y hy => by
 rw [(List.mem_replicate.1 hy).2]
 omega
theorem Dig.getD {B : Nat} (hB : 0 < B) {l : List Int} (h : Dig B l) (n : Nat) : 0 ≤ l.getD n 0 ∧ l.getD n 0 < (B : Int) := by
 rw [List.getD_eq_getElem?_getD]
 rcases Nat.lt_or_ge n l.length with hn | hn
 · rw [List.getElem?_eq_getElem hn]
   exact h _ (List.getElem_mem hn)
 · rw [List.getElem?_eq_none hn]
   simp
   omega
theorem val_append (B : Nat) (l m : List Int) : val B (l ++ m) = val B l + B ^ l.length * val B m := by
 induction l with
 | nil => simp [val]
 | cons x l ih =>
  simp only [List.cons_append, val, ih, List.length_cons, Nat.pow_succ]
  rw [Nat.mul_add, Nat.add_assoc, ← Nat.mul_assoc, Nat.mul_comm B (B ^ l.length)]
theorem ygn (B n : Nat) : val B (List.replicate n 0) = 0 := by
 induction n with
 | zero => rfl
 | succ n ih => simp [List.replicate_succ, val, ih]
theorem ygo {B : Nat} (hB : 0 < B) {l : List Int} (h : Dig B l) : val B l < B ^ l.length := by
 induction l with
 | nil => simp [val]
 | cons x l ih =>
  have h1 := ih h.tail
  have h2 := h.head
  simp only [val, List.length_cons, Nat.pow_succ]
  have h3 : x.toNat < B := by omega
  have h4 : B * (val B l + 1) ≤ B * B ^ l.length := Nat.mul_le_mul_left _ h1
  rw [Nat.mul_comm (B ^ l.length) B]
  rw [Nat.mul_add, Nat.mul_one] at h4
  omega
theorem ygf (B : Nat) (l : List Int) (n : Nat) (hn : n ≤ l.length) : val B l = val B (l.take n) + B ^ n * val B (l.drop n) := by
 have h := val_append B (l.take n) (l.drop n)
 rw [List.take_append_drop, List.length_take, Nat.min_eq_left hn] at h
 exact h
def Trim (l : List Int) : Prop := ∀ x, l.getLast? = some x → x ≠ 0
theorem Trim.nil : Trim [] := fun _ h => by cases h
theorem Trim.tail {x : Int} {l : List Int} (h : Trim (x :: l)) : Trim l := by
 intro y hy
 cases l with
 | nil => cases hy
 | cons z l => exact h y (by rw [List.getLast?_cons_cons]; exact hy)
theorem val_pos {B : Nat} (hB : 0 < B) {l : List Int} (h : Dig B l) (t : Trim l) (hl : l ≠ []) : 0 < val B l := by
 induction l with
 | nil => exact absurd rfl hl
 | cons x l ih =>
  cases l with
  | nil =>
   have h1 := t x rfl
   have h2 := h.head
   simp only [val]
   omega
  | cons y l =>
   have h1 := ih h.tail t.tail (by simp)
   have h2 : 0 < B * val B (y :: l) := Nat.mul_pos hB h1
   simp only [val] at h2 ⊢
   omega
theorem ydp (B : Nat) : digs B 0 = [] := by rw [digs]; simp
theorem ygw {B n : Nat} (hB : 1 < B) (hn : n ≠ 0) : digs B n = ((n % B : Nat) : Int) :: digs B (n / B) := by rw [digs, dif_neg (by omega)]
theorem digs_unique {B : Nat} (hB : 1 < B) {l : List Int} (h : Dig B l) (t : Trim l) : l = digs B (val B l) := by
 induction l with
 | nil => simp only [val]; rw [ydp]
 | cons x l ih =>
  have h2 := h.head
  have hp := val_pos (by omega) h t (by simp)
  rw [ygw hB (by omega)]
  have e1 : val B (x :: l) % B = x.toNat := by
   simp only [val]
   rw [Nat.add_mul_mod_self_left, Nat.mod_eq_of_lt (by omega)]
  have e2 : val B (x :: l) / B = val B l := by
   simp only [val]
   rw [Nat.add_mul_div_left _ _ (by omega), Nat.div_eq_of_lt (by omega), Nat.zero_add]
  rw [e1, e2, ← ih h.tail t.tail]
  congr 1
  omega
theorem val_digs {B : Nat} (hB : 1 < B) (n : Nat) : val B (digs B n) = n := by
 induction n using Nat.strongRecOn with
 | _ n ih =>
  by_cases hn : n = 0
  · subst hn; rw [ydp]; rfl
  · rw [ygw hB hn]
    simp only [val, Int.toNat_natCast]
    rw [ih (n / B) (Nat.div_lt_self (by omega) hB)]
    exact Nat.mod_add_div n B
theorem digs_Dig {B : Nat} (hB : 1 < B) (n : Nat) : Dig B (digs B n) := by
 induction n using Nat.strongRecOn with
 | _ n ih =>
  by_cases hn : n = 0
  · subst hn; rw [ydp]; exact Dig.nil B
  · rw [ygw hB hn]
    refine Dig.cons (by omega) ?_ (ih (n / B) (Nat.div_lt_self (by omega) hB))
    have := Nat.mod_lt n (show B > 0 by omega)
    omega
theorem ygj {B n : Nat} (hB : 1 < B) : digs B n = [] ↔ n = 0 := by
 constructor
 · intro h
   have := val_digs hB n
   rw [h] at this
   exact this.symm
 · rintro rfl
   exact ydp B
theorem digs_Trim {B : Nat} (hB : 1 < B) (n : Nat) : Trim (digs B n) := by
 induction n using Nat.strongRecOn with
 | _ n ih =>
  by_cases hn : n = 0
  · subst hn; rw [ydp]; exact Trim.nil
  · rw [ygw hB hn]
    intro x hx
    by_cases hq : n / B = 0
    · rw [hq, ydp] at hx
      have : ((n % B : Nat) : Int) = x := by simpa using hx
      have h1 : n < B := (Nat.div_eq_zero_iff_lt (by omega)).1 hq
      rw [Nat.mod_eq_of_lt h1] at this
      omega
    · have hne : digs B (n / B) ≠ [] := fun h => hq ((ygj hB).1 h)
      obtain ⟨y, l, e⟩ := List.exists_cons_of_ne_nil hne
      rw [e, List.getLast?_cons_cons, ← e] at hx
      exact ih (n / B) (Nat.div_lt_self (by omega) hB) x hx
theorem yha {B : Nat} (hB : 1 < B) : ∀ (k n : Nat), n < B ^ k → (digs B n).length ≤ k
 | 0, n, h => by
  have : n = 0 := by simpa using h
  subst this
  rw [ydp]
  exact Nat.le_refl _
 | k + 1, n, h => by
  by_cases hn : n = 0
  · subst hn; rw [ydp]; exact Nat.zero_le _
  · rw [ygw hB hn, List.length_cons]
    have := yha hB k (n / B) (by rw [Nat.div_lt_iff_lt_mul (by omega)]; rw [Nat.pow_succ] at h; exact h)
    omega
theorem yhz {B : Nat} (hB : 1 < B) (n : Nat) : n < B ^ (digs B n).length := by
 have h := ygo (by omega) (digs_Dig hB n)
 rwa [val_digs hB] at h
theorem ygz {B n k : Nat} (hB : 1 < B) : (digs B n).length ≤ k ↔ n < B ^ k :=
 ⟨fun h => Nat.lt_of_lt_of_le (yhz hB n) (Nat.pow_le_pow_right (by omega) h), yha hB k n⟩
theorem val_set {B : Nat} : ∀ (l : List Int) (n : Nat) (x : Int), n < l.length → val B (l.set n x) + B ^ n * (l.getD n 0).toNat = val B l + B ^ n * x.toNat
 | [], n, x, h => by simp at h
 | y :: l, 0, x, h => by simp [val]; omega
 | y :: l, n + 1, x, h => by
  have ih := val_set (B := B) l n x (by simpa using h)
  simp only [List.set_cons_succ, val, List.getD_cons_succ, Nat.pow_succ]
  have e : ∀ z : Nat, B ^ n * B * z = B * (B ^ n * z) := fun z => by rw [Nat.mul_comm (B ^ n) B, Nat.mul_assoc]
  rw [e, e]
  have h3 := congrArg (B * ·) ih
  simp only [Nat.mul_add] at h3
  omega
theorem yfy (l : List Int) (n : Nat) (h : n < l.length) : l.take (n + 1) = l.take n ++ [l.getD n 0] := by
 rw [List.take_succ_eq_append_getElem h]
 simp [List.getD, h]
theorem yec (B : Nat) (l : List Int) (n : Nat) (h : n < l.length) : val B (l.take (n + 1)) = val B (l.take n) + B ^ n * (l.getD n 0).toNat := by
 rw [yfy l n h, val_append, List.length_take, Nat.min_eq_left (by omega)]
 simp [val]
theorem ygg (B : Nat) (l : List Int) (n : Nat) (h : n < l.length) : val B (l.drop n) = (l.getD n 0).toNat + B * val B (l.drop (n + 1)) := by
 rw [List.drop_eq_getElem_cons h]
 simp [val, List.getD, h]
end Go.Proofs.Ytgnaaaliadiekaa.Q
end
section
namespace Go.Proofs.Ytgnaaaliadiekaa.Q
open Go.RowKit Go.Proofs.Ytgnaaaliadiekaa.B Go.Proofs.YtgnaaaliadiekaaW.PrintWords Go.Proofs.YtgnaaaliadiekaaW.PrintLast Go.Proofs.YtgnaaaliadiekaaW.PrintMore
set_option linter.unusedVariables false
theorem w64 {x : Int} (h0 : -9223372036854775808 ≤ x) (h1 : x ≤ 9223372036854775807) : wrap64 x = x := by unfold wrap64; omega
theorem wu64 {x : Int} (h0 : 0 ≤ x) (h1 : x < 18446744073709551616) : IntKind.u64.wrap x = x := by
 show x % 18446744073709551616 = x
 omega
def vl (l : List Int) : Nat := val 18446744073709551616 l
def dg (n : Nat) : List Int := digs 18446744073709551616 n
def vd (l : List Int) : Nat := val 65536 l
def dd (n : Nat) : List Int := digs 65536 n
abbrev L64 (l : List Int) : Prop := Dig 18446744073709551616 l
abbrev L16 (l : List Int) : Prop := Dig 65536 l
theorem dg_L (n : Nat) : L64 (dg n) := digs_Dig (by omega) n
theorem dd_L (n : Nat) : L16 (dd n) := digs_Dig (by omega) n
theorem yfj (n : Nat) : vl (dg n) = n := val_digs (by omega) n
theorem ygm (n : Nat) : vd (dd n) = n := val_digs (by omega) n
theorem ygl {n k : Nat} : (dg n).length ≤ k ↔ n < 18446744073709551616 ^ k := ygz (by omega)
theorem yft {n k : Nat} : (dd n).length ≤ k ↔ n < 65536 ^ k := ygz (by omega)
theorem ycp (l : List Int) (i : Nat) : rd l (i : Int) = l.getD i 0 := by simp [rd]
theorem Ev.same {α : Type} {g : Nat → Option α} {r r' : α} (h : Ev g r) (e : r = r') : Ev g r' := e ▸ h
theorem clone_ev {l : List Int} (h : l.length < 17592186044416) : ycx.f l = some l := by unfold ycx.f; rw [if_pos h]
theorem Norm_loop (l : List Int) (hL : L64 l) (hn : l.length < 17592186044416) : ∀ i : Nat, i ≤ l.length → Ev (fun k => ybr.l0 k l (i : Int)) (dg (vl (l.take i)))
 | 0, _ => by
  refine Ev.step (f := fun _ => some []) (fun k => ?_) ?_
  · simp only [ybr.l0]
    rw [if_neg (by omega), if_pos (by omega), if_pos (by omega)]
    simp only [Int.toNat_natCast, List.take_zero]
    rw [clone_ev (by simp)]
    rfl
  · simp only [List.take_zero, vl, val]
    unfold dg
    rw [ydp]
    exact Ev.now _
 | i + 1, hi => by
  have ih := Norm_loop l hL hn i (by omega)
  have e1 : wrap64 (((i + 1 : Nat) : Int) - 1) = (i : Int) := by rw [w64 (by omega) (by omega)]; omega
  have e2 := yec 18446744073709551616 l i (by omega)
  by_cases h0 : l.getD i 0 = 0
  · refine Ev.step (f := fun k => ybr.l0 k l (i : Int)) (fun k => ?_) (Ev.same ih ?_)
    · simp only [ybr.l0]
      rw [e1, if_pos (by omega), if_pos (by omega), if_pos (by omega), ycp, if_pos h0]
    · rw [h0] at e2
      unfold vl
      rw [e2]
      simp
  · refine Ev.step (f := fun _ => some (l.take (i + 1))) (fun k => ?_) (Ev.same (Ev.now _) ?_)
    · simp only [ybr.l0]
      rw [e1, if_pos (by omega), if_pos (by omega), if_pos (by omega), ycp, if_neg h0, if_pos (by omega), if_pos (by omega)]
      rw [show (((i + 1 : Nat) : Int)).toNat = i + 1 from rfl, clone_ev (by rw [List.length_take]; omega)]
      rfl
    · refine digs_unique (by omega) (hL.take _) ?_
      intro x hx
      rw [yfy l i (by omega), List.getLast?_concat] at hx
      injection hx with hx
      rw [← hx]
      exact h0
theorem yfw {l : List Int} (hL : L64 l) (hn : l.length < 17592186044416) : Ev (fun k => ybr.f k l) (dg (vl l)) := by
 have h := Norm_loop l hL hn l.length (Nat.le_refl _)
 rw [List.take_length] at h
 exact h
theorem Of_ev {n : Int} (h0 : 0 ≤ n) (h1 : n < 18446744073709551616) : Ev (fun k => yfi.f k n) (dg n.toNat) := by
 unfold yfi.f
 refine Ev.bind (yfw (Dig.cons h0 h1 (Dig.nil _)) (by simp)) ?_
 refine Ev.same (Ev.now _) ?_
 simp [vl, val]
theorem trim_loop (l : List Int) (hL : L16 l) (hn : l.length < 17592186044416) : ∀ i : Nat, i ≤ l.length → Ev (fun k => yam.l0 k l (i : Int)) (dd (vd (l.take i)))
 | 0, _ => by
  refine Ev.step (f := fun _ => some []) (fun k => ?_) ?_
  · simp only [yam.l0]
    rw [if_neg (by omega), if_pos (by omega), if_pos (by omega)]
    rfl
  · simp only [List.take_zero, vd, val]
    unfold dd
    rw [ydp]
    exact Ev.now _
 | i + 1, hi => by
  have ih := trim_loop l hL hn i (by omega)
  have e1 : wrap64 (((i + 1 : Nat) : Int) - 1) = (i : Int) := by rw [w64 (by omega) (by omega)]; omega
  have e2 := yec 65536 l i (by omega)
  by_cases h0 : l.getD i 0 = 0
  · refine Ev.step (f := fun k => yam.l0 k l (i : Int)) (fun k => ?_) (Ev.same ih ?_)
    · simp only [yam.l0]
      rw [e1, if_pos (by omega), if_pos (by omega), if_pos (by omega), ycp, if_pos h0]
    · rw [h0] at e2
      unfold vd
      rw [e2]
      simp
  · refine Ev.step (f := fun _ => some (l.take (i + 1))) (fun k => ?_) (Ev.same (Ev.now _) ?_)
    · simp only [yam.l0]
      rw [e1, if_pos (by omega), if_pos (by omega), if_pos (by omega), ycp, if_neg h0, if_pos (by omega), if_pos (by omega)]
      rfl
    · refine digs_unique (by omega) (hL.take _) ?_
      intro x hx
      rw [yfy l i (by omega), List.getLast?_concat] at hx
      injection hx with hx
      rw [← hx]
      exact h0
theorem yhr {l : List Int} (hL : L16 l) (hn : l.length < 17592186044416) : Ev (fun k => yam.f k l) (dd (vd l)) := by
 have h := trim_loop l hL hn l.length (Nat.le_refl _)
 rw [List.take_length] at h
 exact h
theorem yfq {l : List Int} (hn : l.length < 17592186044416) (i : Nat) : yef.f l (i : Int) = some (l.getD i 0) := by
 unfold yef.f
 by_cases h : i < l.length
 · rw [if_pos (by omega), if_pos (by omega), ycp]
 · rw [if_neg (by omega), List.getD_eq_getElem?_getD, List.getElem?_eq_none (by omega)]
   rfl
def cmp3 (a b : Nat) : Int := if a < b then -1 else if b < a then 1 else 0
def low (B : Nat) (l : List Int) : Nat → Nat
 | 0 => 0
 | i + 1 => low B l i + B ^ i * (l.getD i 0).toNat
theorem yfp {B : Nat} (hB : 0 < B) {l : List Int} (h : Dig B l) : ∀ i, low B l i < B ^ i
 | 0 => by simp [low]
 | i + 1 => by
  have ih := yfp hB h i
  have h1 := Dig.getD hB h i
  simp only [low, Nat.pow_succ]
  have h2 : (l.getD i 0).toNat + 1 ≤ B := by omega
  have h3 : B ^ i * ((l.getD i 0).toNat + 1) ≤ B ^ i * B := Nat.mul_le_mul_left _ h2
  rw [Nat.mul_add, Nat.mul_one] at h3
  omega
theorem low_val (B : Nat) (l : List Int) : ∀ i, low B l i + B ^ i * val B (l.drop i) = val B l
 | 0 => by simp [low]
 | i + 1 => by
  have ih := low_val B l i
  simp only [low]
  by_cases h : i < l.length
  · rw [ygg B l i h] at ih
    rw [Nat.pow_succ, Nat.mul_assoc, Nat.add_assoc, ← Nat.mul_add]
    exact ih
  · rw [List.drop_eq_nil_of_le (by omega)] at ih ⊢
    rw [List.getD_eq_getElem?_getD, List.getElem?_eq_none (by omega)]
    simp only [val] at ih ⊢
    simpa using ih
theorem ydv (B : Nat) (l : List Int) {i : Nat} (h : l.length ≤ i) : low B l i = val B l := by
 have e := low_val B l i
 rw [List.drop_eq_nil_of_le h] at e
 simpa [val] using e
theorem low_take (B : Nat) (l : List Int) (i : Nat) (h : i ≤ l.length) : low B l i = val B (l.take i) := by
 have e := low_val B l i
 have e2 := ygf B l i h
 omega
theorem cmp3_step {B x y p q n : Nat} (hp : p < n) (hq : q < n) : (x < y → cmp3 (p + n * x) (q + n * y) = -1) ∧ (y < x → cmp3 (p + n * x) (q + n * y) = 1) ∧ (x = y → cmp3 (p + n * x) (q + n * y) = cmp3 p q) := by
 refine ⟨fun h => ?_, fun h => ?_, fun h => ?_⟩
 · have h1 : n * (x + 1) ≤ n * y := Nat.mul_le_mul_left _ h
   rw [Nat.mul_add, Nat.mul_one] at h1
   unfold cmp3
   rw [if_pos (by omega)]
 · have h1 : n * (y + 1) ≤ n * x := Nat.mul_le_mul_left _ h
   rw [Nat.mul_add, Nat.mul_one] at h1
   unfold cmp3
   rw [if_neg (by omega), if_pos (by omega)]
 · subst h
   unfold cmp3
   simp only [Nat.add_lt_add_iff_right]
theorem Cmp_loop (a b : List Int) (hA : L64 a) (hB : L64 b) (ha : a.length < 17592186044416) (hb : b.length < 17592186044416) : ∀ i : Nat, i < 17592186044416 → Ev (fun k => yco.l0 k a b ((i : Int) - 1)) (cmp3 (low 18446744073709551616 a i) (low 18446744073709551616 b i))
 | 0, _ => by
  refine Ev.step (f := fun _ => some 0) (fun k => ?_) (Ev.same (Ev.now _) rfl)
  simp only [yco.l0]
  rw [if_neg (by omega)]
 | i + 1, hi => by
  have ih := Cmp_loop a b hA hB ha hb i (by omega)
  have e0 : ((i + 1 : Nat) : Int) - 1 = (i : Int) := by omega
  have e1 : wrap64 ((i : Int) - 1) = (i : Int) - 1 := w64 (by omega) (by omega)
  rw [e0]
  have g1 := Dig.getD (by omega) hA i
  have g2 := Dig.getD (by omega) hB i
  obtain ⟨c1, c2, c3⟩ := cmp3_step (B := 0) (x := (a.getD i 0).toNat) (y := (b.getD i 0).toNat) (yfp (by omega) hA i) (yfp (by omega) hB i)
  by_cases hlt : a.getD i 0 < b.getD i 0
  · refine Ev.step (f := fun _ => some (-1)) (fun k => ?_) (Ev.same (Ev.now _) (c1 (by omega)).symm)
    simp only [yco.l0]
    rw [if_pos (by omega), yfq ha, yfq hb]
    simp only [Option.bind_some]
    rw [if_pos hlt]
  · by_cases hgt : b.getD i 0 < a.getD i 0
    · refine Ev.step (f := fun _ => some 1) (fun k => ?_) (Ev.same (Ev.now _) (c2 (by omega)).symm)
      simp only [yco.l0]
      rw [if_pos (by omega), yfq ha, yfq hb]
      simp only [Option.bind_some]
      rw [if_neg hlt, if_pos hgt]
    · refine Ev.step (f := fun k => yco.l0 k a b ((i : Int) - 1)) (fun k => ?_) (Ev.same ih (c3 (by omega)).symm)
      simp only [yco.l0]
      rw [if_pos (by omega), yfq ha, yfq hb]
      simp only [Option.bind_some]
      rw [if_neg hlt, if_neg hgt, e1]
theorem mx_nat (a b : Nat) : mx (a : Int) (b : Int) = ((max a b : Nat) : Int) := by unfold mx; split <;> omega
theorem Cmp_ev {a b : List Int} (hA : L64 a) (hB : L64 b) (ha : a.length < 17592186044416) (hb : b.length < 17592186044416) : Ev (fun k => yco.f k a b) (cmp3 (vl a) (vl b)) := by
 unfold yco.f
 rw [mx_nat, w64 (by omega) (by omega)]
 have h := Cmp_loop a b hA hB ha hb (max a.length b.length) (by omega)
 rw [ydv _ a (by omega), ydv _ b (by omega)] at h
 exact h
theorem rcmp_loop (a b : List Int) (hA : L16 a) (hB : L16 b) (ha : a.length < 17592186044416) (hab : a.length = b.length) : ∀ i : Nat, i ≤ a.length → Ev (fun k => yas.l0 k a b ((i : Int) - 1)) (cmp3 (low 65536 a i) (low 65536 b i))
 | 0, _ => by
  refine Ev.step (f := fun _ => some 0) (fun k => ?_) (Ev.same (Ev.now _) rfl)
  simp only [yas.l0]
  rw [if_neg (by omega)]
 | i + 1, hi => by
  have ih := rcmp_loop a b hA hB ha hab i (by omega)
  have e0 : ((i + 1 : Nat) : Int) - 1 = (i : Int) := by omega
  have e1 : wrap64 ((i : Int) - 1) = (i : Int) - 1 := w64 (by omega) (by omega)
  rw [e0]
  have g1 := Dig.getD (by omega) hA i
  have g2 := Dig.getD (by omega) hB i
  obtain ⟨c1, c2, c3⟩ := cmp3_step (B := 0) (x := (a.getD i 0).toNat) (y := (b.getD i 0).toNat) (yfp (by omega) hA i) (yfp (by omega) hB i)
  by_cases hlt : a.getD i 0 < b.getD i 0
  · refine Ev.step (f := fun _ => some (-1)) (fun k => ?_) (Ev.same (Ev.now _) (c1 (by omega)).symm)
    simp only [yas.l0]
    rw [if_pos (by omega), if_pos (by omega), if_pos (by omega), if_pos (by omega), ycp, ycp, if_pos hlt]
  · by_cases hgt : b.getD i 0 < a.getD i 0
    · refine Ev.step (f := fun _ => some 1) (fun k => ?_) (Ev.same (Ev.now _) (c2 (by omega)).symm)
      simp only [yas.l0]
      rw [if_pos (by omega), if_pos (by omega), if_pos (by omega), if_pos (by omega), ycp, ycp, if_neg hlt, if_pos hgt]
    · refine Ev.step (f := fun k => yas.l0 k a b ((i : Int) - 1)) (fun k => ?_) (Ev.same ih (c3 (by omega)).symm)
      simp only [yas.l0]
      rw [if_pos (by omega), if_pos (by omega), if_pos (by omega), if_pos (by omega), ycp, ycp, if_neg hlt, if_neg hgt, e1]
theorem len_lt_dd {m n : Nat} (h : (dd m).length < (dd n).length) : m < n := by
 rcases Nat.lt_or_ge m n with h1 | h1
 · exact h1
 · have h2 : n < 65536 ^ (dd m).length := Nat.lt_of_le_of_lt h1 (yft.1 (Nat.le_refl _))
   have h3 := yft.2 h2
   omega
theorem rcmp_ev (m n : Nat) (hm : (dd m).length < 17592186044416) : Ev (fun k => yas.f k (dd m) (dd n)) (cmp3 m n) := by
 unfold yas.f
 by_cases h : (dd m).length = (dd n).length
 · have h2 := rcmp_loop (dd m) (dd n) (dd_L m) (dd_L n) hm h (dd m).length (Nat.le_refl _)
   rw [ydv _ (dd m) (Nat.le_refl _), ydv _ (dd n) (by omega)] at h2
   rw [show val 65536 (dd m) = m from ygm m, show val 65536 (dd n) = n from ygm n] at h2
   refine Ev.congr (fun k => ?_) h2
   rw [if_pos (by omega), w64 (by omega) (by omega)]
 · rcases Nat.lt_or_gt_of_ne h with h | h
   · refine Ev.congr (fun k => ?_) (Ev.same (Ev.now (-1)) (by unfold cmp3; rw [if_pos (len_lt_dd h)]))
     rw [if_neg (by omega), if_pos (by omega)]
   · have h1 := len_lt_dd h
     refine Ev.congr (fun k => ?_) (Ev.same (Ev.now 1) (by unfold cmp3; rw [if_neg (by omega), if_pos h1]))
     rw [if_neg (by omega), if_neg (by omega)]
end Go.Proofs.Ytgnaaaliadiekaa.Q
end
section
namespace Go.Proofs.Ytgnaaaliadiekaa.Q
open Go.RowKit Go.Proofs.Ytgnaaaliadiekaa.B Go.Proofs.YtgnaaaliadiekaaW.PrintWords Go.Proofs.YtgnaaaliadiekaaW.PrintLast Go.Proofs.YtgnaaaliadiekaaW.PrintMore
set_option linter.unusedVariables false
theorem yfe (a b : Nat) : Int.tmod (a : Int) (b : Int) = ((a % b : Nat) : Int) := rfl
theorem yed (a b : Nat) : Int.tdiv (a : Int) (b : Int) = ((a / b : Nat) : Int) := rfl
theorem yhj (l out : List Int) (i : Int) (r : List Int) (v : Nat) (hv : v < 18446744073709551616) (j : Nat) (hj : j < 4) (ho : out.length < 17592186044416) (h : Ev (fun k => yah.l1 k l (out ++ [((v % 65536 : Nat) : Int)]) i ((v / 65536 : Nat) : Int) ((j + 1 : Nat) : Int)) r) :
 Ev (fun k => yah.l1 k l out i (v : Int) (j : Int)) r := by
 refine Ev.step (fun k => ?_) h
 simp only [yah.l1]
 rw [if_pos (by omega), if_pos ho]
 have e1 : Int.tmod (v : Int) 65536 = ((v % 65536 : Nat) : Int) := yfe v 65536
 have e2 : Int.tdiv (v : Int) 65536 = ((v / 65536 : Nat) : Int) := yed v 65536
 rw [e1, e2, w64 (by omega) (by omega), wu64 (by omega) (by omega), w64 (by omega) (by omega)]
 rfl
theorem val4 (v : Nat) (hv : v < 18446744073709551616) : val 65536 [((v % 65536 : Nat) : Int), ((v / 65536 % 65536 : Nat) : Int), ((v / 65536 / 65536 % 65536 : Nat) : Int), ((v / 65536 / 65536 / 65536 % 65536 : Nat) : Int)] = v := by
 simp only [val, Int.toNat_natCast]
 omega
theorem dig4 (v : Nat) : L16 [((v % 65536 : Nat) : Int), ((v / 65536 % 65536 : Nat) : Int), ((v / 65536 / 65536 % 65536 : Nat) : Int), ((v / 65536 / 65536 / 65536 % 65536 : Nat) : Int)] :=
 Dig.cons (by omega) (by omega) (Dig.cons (by omega) (by omega) (Dig.cons (by omega) (by omega) (Dig.cons (by omega) (by omega) (Dig.nil _))))
theorem pow_four (q : Nat) : 65536 ^ (4 * q) = 18446744073709551616 ^ q := by rw [Nat.pow_mul]
theorem rOf_loop (l : List Int) (hL : L64 l) (hn : l.length < 1099511627776) : ∀ (d i : Nat) (out : List Int), i + d = l.length → out.length = 4 * i → L16 out → vd out = low 18446744073709551616 l i → Ev (fun k => yah.l0 k l out (i : Int)) (dd (vl l))
 | 0, i, out, hd, ho, hO, hv => by
  refine Ev.step (f := fun k => (yam.f k out).bind fun t => some t) (fun k => ?_) ?_
  · simp only [yah.l0]
    rw [if_neg (by omega)]
  · refine Ev.bind (yhr hO (by omega)) (Ev.same (Ev.now _) ?_)
    rw [hv, ydv _ l (by omega)]
    rfl
 | d + 1, i, out, hd, ho, hO, hv => by
  have g := Dig.getD (by omega) hL i
  obtain ⟨v, hv1⟩ := Int.eq_ofNat_of_zero_le g.1
  have hv2 : v < 18446744073709551616 := by omega
  refine Ev.step (f := fun k => yah.l1 k l out (i : Int) (v : Int) 0) (fun k => ?_) ?_
  · simp only [yah.l0]
    rw [if_pos (by omega), if_pos (by omega), ycp, hv1]
  · refine yhj l out i _ v hv2 0 (by omega) (by omega) ?_
    refine yhj l _ i _ (v / 65536) (by omega) 1 (by omega) (by simp; omega) ?_
    refine yhj l _ i _ (v / 65536 / 65536) (by omega) 2 (by omega) (by simp; omega) ?_
    refine yhj l _ i _ (v / 65536 / 65536 / 65536) (by omega) 3 (by omega) (by simp; omega) ?_
    refine Ev.step (f := fun k => yah.l0 k l (out ++ [((v % 65536 : Nat) : Int), ((v / 65536 % 65536 : Nat) : Int), ((v / 65536 / 65536 % 65536 : Nat) : Int), ((v / 65536 / 65536 / 65536 % 65536 : Nat) : Int)]) ((i + 1 : Nat) : Int)) (fun k => ?_) (rOf_loop l hL hn d (i + 1) (out ++ [((v % 65536 : Nat) : Int), ((v / 65536 % 65536 : Nat) : Int), ((v / 65536 / 65536 % 65536 : Nat) : Int), ((v / 65536 / 65536 / 65536 % 65536 : Nat) : Int)]) (by omega) ?_ ?_ ?_)
    · simp only [yah.l1]
      rw [if_neg (by omega), w64 (by omega) (by omega)]
      simp only [List.append_assoc, List.cons_append, List.nil_append]
      rfl
    · simp
      omega
    · exact Dig.append hO (dig4 v)
    · have e := val4 v hv2
      unfold vd at hv ⊢
      rw [val_append, e, hv, ho, pow_four]
      simp only [low]
      rw [hv1]
      rfl
theorem rOf_ev {l : List Int} (hL : L64 l) (hn : l.length < 1099511627776) : Ev (fun k => yah.f k l) (dd (vl l)) :=
 rOf_loop l hL hn l.length 0 [] (by omega) rfl (Dig.nil _) rfl
end Go.Proofs.Ytgnaaaliadiekaa.Q
end
