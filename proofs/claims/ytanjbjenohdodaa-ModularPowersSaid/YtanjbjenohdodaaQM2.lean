/- The inverse below a modulus; the document's greatest divisor; which numbers are long; the fixed facts. -/
import Derived.Test.YtanjbjenohdodaaBx0
import Derived.Test.YtanjbjenohdodaaBx7
import Derived.Test.YtanjbjenohdodaaQM1
import Derived.Test.YtanjbjenohdodaaQA11
import Derived.Test.YtanjbjenohdodaaQA3
namespace Go.Proofs.Ytanjbjenohdodaa.Q
open Go.RowKit Go.Proofs.Ytanjbjenohdodaa.B Go.Proofs.YtanjbjenohdodaaW.PrintWords Go.Proofs.YtanjbjenohdodaaW.PrintLast Go.Proofs.YtanjbjenohdodaaW.PrintMore
set_option linter.unusedVariables false
set_option linter.unusedSimpArgs false

theorem bl_eq_zero {n : Nat} : bl n = 0 ↔ n = 0 := by
  constructor
  · intro h
    have := bl_le_iff.1 (show bl n ≤ 0 by omega)
    omega
  · rintro rfl
    exact bl_zero
theorem fits_of_le {n N k : Nat} (h : n ≤ N) (hN : N < 18446744073709551616 ^ k) : (dg n).length ≤ k := dg_fits (Nat.lt_of_le_of_lt h hN)
theorem InvSt.y_le {M A r s x y : Nat} {odd : Bool} (h : InvSt M A r s x y odd) (hr : 0 < r) : y ≤ M ∧ x ≤ M := by
  obtain ⟨h1, h2, _⟩ := h
  have := Nat.le_mul_of_pos_left y hr
  omega
/-- what the inverse answers -/
def InvTo (M A : Nat) (g : Nat → Option (List Int × Int)) : Prop :=
  (Nat.gcd M A = 1 ∧ ∃ z, z < M ∧ z * A % M = 1 % M ∧ Ev g (dg z, 0)) ∨ (Nat.gcd M A ≠ 1 ∧ Ev g ([], 5))
theorem InvTo.step {M A : Nat} {g f : Nat → Option (List Int × Int)} (h : ∀ {r}, Ev f r → Ev g r) (k : InvTo M A f) : InvTo M A g := by
  rcases k with ⟨h1, z, h2, h3, h4⟩ | ⟨h1, h2⟩
  · exact .inl ⟨h1, z, h2, h3, h h4⟩
  · exact .inr ⟨h1, h h2⟩
theorem cmp3_eq_zero {a b : Nat} : cmp3 a b = 0 ↔ a = b := by
  unfold cmp3
  constructor
  · intro h
    split at h
    · omega
    · split at h <;> omega
  · rintro rfl
    simp
theorem mod_inv_mod {z M A : Nat} (h : z * A % M = 1 % M) : z % M * A % M = 1 % M := by rw [Nat.mod_mul_mod, h]
theorem mInv_end {m : List Int} (hM : L64 m) (hm : m.length < 67108864) (A : Nat) (h0 : 0 < vl m) (r x y : Nat) (odd : Bool) (lr ls lx ly : List Int) (hlr : L64 lr) (hls : L64 ls) (hlx : L64 lx) (nr : lr.length ≤ m.length) (ns : ls.length ≤ m.length) (nx : lx.length ≤ m.length)
    (er : vl lr = r) (es : vl ls = 0) (ex : vl lx = x) (h : InvSt (vl m) A r 0 x y odd) : InvTo (vl m) A (fun k => modular_Inv.l0 k m lr ls lx ly odd) := by
  refine InvTo.step (fun h => Ev.succ h) ?_
  simp only [modular_Inv.l0]
  refine InvTo.step (fun h => Ev.bind (Len_ev hls (by omega)) h) ?_
  rw [es, bl_zero]
  refine InvTo.step (fun h => Ev.congr (fun k => if_neg (by decide)) h) ?_
  refine InvTo.step (fun h => Ev.bind (Of_ev (by decide) (by decide)) h) ?_
  have d1 : (dg (1 : Int).toNat).length ≤ 1 := dg_fits (k := 1) (by decide)
  have hc := Cmp_ev hlr (dg_L (1 : Int).toNat) (by omega) (by omega)
  rw [vl_dg, er] at hc
  refine InvTo.step (fun h => Ev.bind hc h) ?_
  have hg : Nat.gcd (vl m) A = r := by rw [← h.2.2.1, Nat.gcd_zero_right]
  by_cases h1 : r = 1
  · subst h1
    rw [show cmp3 1 (Int.toNat 1) = 0 from rfl]
    refine .inl ⟨hg, ?_⟩
    cases odd with
    | true =>
      have e := h.done_odd
      refine ⟨x % vl m, Nat.mod_lt _ h0, mod_inv_mod e, ?_⟩
      refine Ev.congr (fun k => if_pos rfl) ?_
      refine Ev.congr (fun k => if_pos rfl) ?_
      have g := mOf_ev hlx hM (by omega) (by omega) h0
      rw [ex] at g
      exact Ev.bind g (Ev.now _)
    | false =>
      obtain ⟨hle, e⟩ := h.done_even
      refine ⟨(vl m - x) % vl m, Nat.mod_lt _ h0, mod_inv_mod e, ?_⟩
      refine Ev.congr (fun k => if_pos rfl) ?_
      refine Ev.congr (fun k => if_neg (by decide)) ?_
      have g := Sub_ev hM hlx (by omega) (by omega) (by omega)
      rw [ex] at g
      refine Ev.bind g ?_
      have hf : (dg (vl m - x)).length ≤ m.length := fits_of_le (Nat.sub_le _ _) (vl_lt hM)
      have g2 := mOf_ev (dg_L (vl m - x)) hM (by omega) (by omega) h0
      rw [vl_dg] at g2
      exact Ev.bind g2 (Ev.now _)
  · refine .inr ⟨by omega, ?_⟩
    refine Ev.congr (fun k => if_neg ?_) (Ev.now _)
    rw [show (1 : Int).toNat = 1 from rfl, cmp3_eq_zero]
    exact h1
theorem mInv_loop {m : List Int} (hM : L64 m) (hm : m.length < 67108864) (A : Nat) (h0 : 0 < vl m) : ∀ (n s : Nat), s < n → ∀ (r x y : Nat) (odd : Bool) (lr ls lx ly : List Int), L64 lr → L64 ls → L64 lx → L64 ly → lr.length ≤ m.length → ls.length ≤ m.length → lx.length ≤ m.length → ly.length ≤ m.length →
    vl lr = r → vl ls = s → vl lx = x → vl ly = y → s < r → InvSt (vl m) A r s x y odd → InvTo (vl m) A (fun k => modular_Inv.l0 k m lr ls lx ly odd) := by
  intro n
  induction n with
  | zero => intro s hs; omega
  | succ n ih =>
    intro s hs r x y odd lr ls lx ly hlr hls hlx hly nr ns nx ny er es ex ey hsr h
    by_cases hz : s = 0
    · subst hz
      exact mInv_end hM hm A h0 r x y odd lr ls lx ly hlr hls hlx nr ns nx er es ex h
    · have hp : 0 < s := by omega
      have h' := h.step hp (by omega)
      obtain ⟨hy', hx'⟩ := h'.y_le hp
      have hq : r / s * y ≤ vl m := by omega
      have hqr : r / s ≤ r := Nat.div_le_self _ _
      have hrm : r ≤ vl m := by
        have h1 := h.1
        have h2 := h.2.1
        by_cases hy0 : y = 0
        · subst hy0
          have : x = 0 := by omega
          subst this
          omega
        · have := Nat.le_mul_of_pos_right r (show 0 < y by omega)
          omega
      refine InvTo.step (fun h => Ev.succ h) ?_
      simp only [modular_Inv.l0]
      refine InvTo.step (fun h => Ev.bind (Len_ev hls (by omega)) h) ?_
      rw [es]
      have hb : bl s ≠ 0 := fun e => hz (bl_eq_zero.1 e)
      refine InvTo.step (fun h => Ev.congr (fun k => if_pos (by omega)) h) ?_
      have g1 := Div_ev hlr hls (by omega) (by omega) (by omega)
      rw [er, es] at g1
      refine InvTo.step (fun h => Ev.bind g1 h) ?_
      have l1 : (dg (r / s)).length ≤ m.length := fits_of_le (Nat.le_trans hqr hrm) (vl_lt hM)
      have l2 : (dg (r / s * y)).length ≤ m.length := fits_of_le hq (vl_lt hM)
      have l3 : (dg (x + r / s * y)).length ≤ m.length := fits_of_le hy' (vl_lt hM)
      have l4 : (dg (r % s)).length ≤ m.length := fits_of_le (Nat.le_trans (Nat.mod_le _ _) hrm) (vl_lt hM)
      have g2 := Mul_ev (dg_L (r / s)) hly (by omega) (by omega)
      rw [vl_dg, ey] at g2
      refine InvTo.step (fun h => Ev.bind g2 h) ?_
      have g3 := Add_ev hlx (dg_L (r / s * y)) (by omega) (by omega)
      rw [vl_dg, ex] at g3
      refine InvTo.step (fun h => Ev.bind g3 h) ?_
      have hlt := Nat.mod_lt r hp
      exact ih (r % s) (by omega) s y (x + r / s * y) (!odd) ls (dg (r % s)) ly (dg (x + r / s * y)) hls (dg_L _) hly (dg_L _) ns l4 ny l3 es (vl_dg _) ey (vl_dg _) hlt h'
theorem vl_pos_len {m : List Int} (h0 : 0 < vl m) : 1 ≤ m.length := by
  cases m with
  | nil => exact absurd h0 (by decide)
  | cons x l => simp
theorem mInv_ev {a m : List Int} (hA : L64 a) (hM : L64 m) (ha : a.length < 134217728) (hm : m.length < 67108864) (h0 : 0 < vl m) : InvTo (vl m) (vl a) (fun k => modular_Inv.f k a m) := by
  unfold modular_Inv.f
  refine InvTo.step (fun h => Ev.bind (mOf_ev hA hM (by omega) (by omega) h0) h) ?_
  refine InvTo.step (fun h => Ev.congr (fun k => if_pos rfl) h) ?_
  refine InvTo.step (fun h => Ev.bind (Of_ev (by decide) (by decide)) h) ?_
  have hl := Nat.mod_lt (vl a) h0
  have h1 := vl_pos_len h0
  refine mInv_loop hM hm (vl a) h0 (vl a % vl m + 1) (vl a % vl m) (by omega) (vl m) 0 1 false m (dg (vl a % vl m)) [] (dg 1) hM (dg_L _) (by intro x hx; cases hx) (dg_L _) (Nat.le_refl _) (mod_fits hM h0 _) (by simp) (Nat.le_trans (dg_fits (k := 1) (by decide)) h1) rfl (vl_dg _) rfl (vl_dg _) hl ⟨by omega, by omega, ?_, ?_⟩
  · rw [Nat.gcd_comm (vl m) (vl a % vl m), ← Nat.gcd_rec]
  · simp only [Bool.false_eq_true, if_false]
    refine ⟨⟨1, by omega⟩, vl a / vl m, ?_⟩
    have := Nat.mod_add_div (vl a) (vl m)
    omega
theorem mInv_zero {a m : List Int} (hA : L64 a) (hM : L64 m) (ha : a.length < 134217728) (hm : m.length < 67108864) (h0 : vl m = 0) : Ev (fun k => modular_Inv.f k a m) ([], 4) := by
  unfold modular_Inv.f
  refine Ev.bind (mOf_zero hA hM (by omega) (by omega) h0) ?_
  exact Ev.congr (fun k => if_neg (by decide)) (Ev.now _)
/-- an inverse is one alone -/
theorem inv_unique {M A z w : Nat} (hz : z < M) (hw : w < M) (h1 : z * A % M = 1 % M) (h2 : w * A % M = 1 % M) : z = w := by
  have e1 : z * A * w % M = w % M := by rw [Nat.mul_mod, h1, ← Nat.mul_mod, Nat.one_mul]
  have e2 : w * A * z % M = z % M := by rw [Nat.mul_mod, h2, ← Nat.mul_mod, Nat.one_mul]
  have e3 : z * A * w = w * A * z := by rw [Nat.mul_assoc, Nat.mul_comm z, Nat.mul_comm A w]
  rw [e3, e2] at e1
  rw [Nat.mod_eq_of_lt hz, Nat.mod_eq_of_lt hw] at e1
  exact e1
theorem dd_nil {n : Nat} : (dd n).length = 0 ↔ n = 0 := by
  constructor
  · intro h
    exact (digs_eq_nil (by decide)).1 (List.eq_nil_of_length_eq_zero h)
  · rintro rfl
    show (digs 65536 0).length = 0
    rw [digs_zero]
    rfl
theorem long2_loop (N : Nat) (hN : N < 1024) (L : List (List Int)) (hn : L.length < 1024) (hL : ∀ l ∈ L, l.length < 17592186044416) : ∀ (d i : Nat), i + d = L.length → Ev (fun k => latchkeylaw02_long.l0 k (N : Int) L (L.length : Int) (i : Int)) ((L.drop i).any fun l => decide (N < l.length))
  | 0, i, hd => by
    refine Ev.step (f := fun _ => some false) (fun k => ?_) (Ev.same (Ev.now _) ?_)
    · simp only [latchkeylaw02_long.l0]
      rw [if_neg (by omega)]
    · rw [List.drop_eq_nil_of_le (by omega)]
      rfl
  | d + 1, i, hd => by
    have e : L.drop i = L.getD i [] :: L.drop (i + 1) := by
      rw [List.drop_eq_getElem_cons (by omega)]
      simp [List.getD, show i < L.length from by omega]
    have e2 : rd_L1 L (i : Int) = L.getD i [] := by simp [rd_L1]
    have hm : L.getD i [] ∈ L := by rw [List.getD_eq_getElem?_getD, List.getElem?_eq_getElem (by omega)]; exact List.getElem_mem _
    have hl := hL _ hm
    by_cases hc : N < (L.getD i []).length
    · refine Ev.step (f := fun _ => some true) (fun k => ?_) (Ev.same (Ev.now _) ?_)
      · simp only [latchkeylaw02_long.l0]
        rw [if_pos (by omega), if_pos (by omega), if_pos (by omega), e2, if_pos (by omega)]
      · rw [e, List.any_cons, decide_eq_true hc]
        rfl
    · refine Ev.step (f := fun k => latchkeylaw02_long.l0 k (N : Int) L (L.length : Int) ((i + 1 : Nat) : Int)) (fun k => ?_) (Ev.same (long2_loop N hN L hn hL d (i + 1) (by omega)) ?_)
      · simp only [latchkeylaw02_long.l0]
        rw [if_pos (by omega), if_pos (by omega), if_pos (by omega), e2, if_neg (by omega), w64 (by omega) (by omega)]
        rfl
      · rw [e, List.any_cons, decide_eq_false hc]
        rfl
theorem long2_ev (N : Nat) (hN : N < 1024) {L : List (List Int)} (hn : L.length < 1024) (hL : ∀ l ∈ L, l.length < 17592186044416) : Ev (fun k => latchkeylaw02_long.f k (N : Int) L) (L.any fun l => decide (N < l.length)) :=
  long2_loop N hN L hn hL L.length 0 (by omega)
theorem awake2_ev : Ev (fun k => latchkeylaw02_Awake.f k) true := Ev.of latchkeylaw02_Awake.mono (k := 40) (by kernel_rfl)
end Go.Proofs.Ytanjbjenohdodaa.Q
