/- Sameness, how many bits, and the fixed facts. -/
import Derived.Test.YtgnaaaliadiekaaBx0
import Derived.Test.YtgnaaaliadiekaaBx15
import Derived.Test.YtgnaaaliadiekaaBx42
import Derived.Test.YtgnaaaliadiekaaSbitsLen64
import Derived.Test.YtgnaaaliadiekaaQA2
namespace Go.Proofs.Ytgnaaaliadiekaa.Q
open Go.RowKit Go.Proofs.Ytgnaaaliadiekaa.B Go.Proofs.YtgnaaaliadiekaaW.PrintWords Go.Proofs.YtgnaaaliadiekaaW.PrintLast Go.Proofs.YtgnaaaliadiekaaW.PrintMore
set_option linter.unusedVariables false

/-- How many bits a number has. -/
def bl (n : Nat) : Nat := if h : n = 0 then 0 else 1 + bl (n / 2)
termination_by n
decreasing_by exact Nat.div_lt_self (by omega) (by omega)
theorem bl_zero : bl 0 = 0 := by rw [bl]; simp
theorem bl_pos {n : Nat} (h : n ≠ 0) : bl n = 1 + bl (n / 2) := by rw [bl, dif_neg h]
theorem bl_shift : ∀ (k n : Nat), 2 ^ k ≤ n → bl n = k + bl (n / 2 ^ k)
  | 0, n, _ => by simp
  | k + 1, n, h => by
    have hp : 0 < 2 ^ k := Nat.two_pow_pos k
    have h2 : 2 ^ k ≤ n / 2 := by rw [Nat.pow_succ] at h; omega
    rw [bl_pos (by rw [Nat.pow_succ] at h; omega), bl_shift k (n / 2) h2, Nat.div_div_eq_div_mul, Nat.pow_succ, Nat.mul_comm 2]
    omega
theorem bl_aux : ∀ (f n : Nat), n < 2 ^ f → Lib.bitLenAux f n = bl n
  | 0, n, h => by
    have : n = 0 := by simpa using h
    subst this
    rw [bl_zero]
    rfl
  | f + 1, n, h => by
    unfold Lib.bitLenAux
    by_cases h0 : n = 0
    · rw [if_pos h0, h0, bl_zero]
    · rw [if_neg h0, bl_pos h0, bl_aux f (n / 2) (by rw [Nat.pow_succ] at h; omega)]
theorem bl_lib {n : Nat} (h : n < 18446744073709551616) : Lib.bitLen n = bl n := bl_aux 64 n h
theorem bl_le : ∀ (k n : Nat), n < 2 ^ k → bl n ≤ k
  | 0, n, h => by
    have : n = 0 := by simpa using h
    subst this
    rw [bl_zero]
    exact Nat.le_refl _
  | k + 1, n, h => by
    by_cases h0 : n = 0
    · subst h0; rw [bl_zero]; omega
    · rw [bl_pos h0]
      have := bl_le k (n / 2) (by rw [Nat.pow_succ] at h; omega)
      omega
theorem lt_bl (n : Nat) : n < 2 ^ bl n := by
  induction n using Nat.strongRecOn with
  | _ n ih =>
    by_cases h0 : n = 0
    · subst h0; rw [bl_zero]; omega
    · rw [bl_pos h0, Nat.add_comm, Nat.pow_succ]
      have := ih (n / 2) (by omega)
      omega
theorem bl_le_iff {n k : Nat} : bl n ≤ k ↔ n < 2 ^ k := ⟨fun h => Nat.lt_of_lt_of_le (lt_bl n) (Nat.pow_le_pow_right (by omega) h), bl_le k n⟩
theorem bl_mono {m n : Nat} (h : m ≤ n) : bl m ≤ bl n := bl_le_iff.2 (Nat.lt_of_le_of_lt h (lt_bl n))
/-- of a number with a greatest digit -/
theorem bl_top (e p x i : Nat) (hp : p < 2 ^ (e * i)) (hx : 0 < x) : bl (p + 2 ^ (e * i) * x) = e * i + bl x := by
  have hP : 0 < 2 ^ (e * i) := Nat.two_pow_pos _
  have h1 : 2 ^ (e * i) ≤ p + 2 ^ (e * i) * x := by
    have : 2 ^ (e * i) * 1 ≤ 2 ^ (e * i) * x := Nat.mul_le_mul_left _ hx
    omega
  rw [bl_shift (e * i) _ h1, Nat.add_mul_div_left _ _ hP, Nat.div_eq_of_lt hp, Nat.zero_add]
theorem pow64 (i : Nat) : 18446744073709551616 ^ i = 2 ^ (64 * i) := by rw [Nat.pow_mul]
theorem pow16 (i : Nat) : 65536 ^ i = 2 ^ (16 * i) := by rw [Nat.pow_mul]
theorem Len64_ev {n : Int} (h0 : 0 ≤ n) (h1 : n < 18446744073709551616) : bits_Len64.f n = some (bl n.toNat : Int) := by
  unfold bits_Len64.f
  rw [if_pos h0, if_pos (by omega), bl_lib (by omega)]
theorem Len_loop (l : List Int) (hL : L64 l) (hn : l.length < 1099511627776) : ∀ i : Nat, i ≤ l.length → Ev (fun k => nat_Len.l0 k l ((i : Int) - 1)) (bl (low 18446744073709551616 l i) : Int)
  | 0, _ => by
    refine Ev.step (f := fun _ => some 0) (fun k => ?_) (Ev.same (Ev.now _) ?_)
    · simp only [nat_Len.l0]
      rw [if_neg (by omega)]
    · simp only [low, bl_zero]
      rfl
  | i + 1, hi => by
    have ih := Len_loop l hL hn i (by omega)
    have e0 : ((i + 1 : Nat) : Int) - 1 = (i : Int) := by omega
    have e1 : wrap64 ((i : Int) - 1) = (i : Int) - 1 := w64 (by omega) (by omega)
    have g := Dig.getD (by omega) hL i
    rw [e0]
    by_cases hz : l.getD i 0 = 0
    · refine Ev.step (f := fun k => nat_Len.l0 k l ((i : Int) - 1)) (fun k => ?_) (Ev.same ih ?_)
      · simp only [nat_Len.l0]
        rw [if_pos (by omega), if_pos (by omega), if_pos (by omega), rd_getD, if_pos hz, e1]
      · simp only [low, hz]
        simp
    · have hb := bl_le 64 (l.getD i 0).toNat (by omega)
      refine Ev.step (f := fun _ => some ((64 * i + bl (l.getD i 0).toNat : Nat) : Int)) (fun k => ?_) (Ev.same (Ev.now _) ?_)
      · simp only [nat_Len.l0]
        rw [if_pos (by omega), if_pos (by omega), if_pos (by omega), rd_getD, if_neg hz, Len64_ev g.1 (by omega)]
        simp only [Option.bind_some]
        rw [w64 (x := 64 * (i : Int)) (by omega) (by omega), w64 (by omega) (by omega)]
        congr 1
      · simp only [low]
        rw [pow64, bl_top 64 _ _ i (by rw [← pow64]; exact low_lt (by omega) hL i) (by omega)]
theorem Len_ev {l : List Int} (hL : L64 l) (hn : l.length < 1099511627776) : Ev (fun k => nat_Len.f k l) (bl (vl l) : Int) := by
  unfold nat_Len.f
  rw [w64 (by omega) (by omega)]
  have h := Len_loop l hL hn l.length (Nat.le_refl _)
  rw [low_all _ l (Nat.le_refl _)] at h
  exact h
theorem rLen_loop : ∀ (b x m : Nat), bl x = b → m + b < 1099511627776 → x < 1099511627776 → Ev (fun k => latchkeyref01_Len.l0 k (m : Int) (x : Int)) ((m + b : Nat) : Int)
  | 0, x, m, hb, hm, hx => by
    have h0 : x = 0 := by
      have := lt_bl x
      rw [hb] at this
      omega
    refine Ev.step (f := fun _ => some (m : Int)) (fun k => ?_) (Ev.same (Ev.now _) (by simp))
    simp only [latchkeyref01_Len.l0]
    rw [if_neg (by omega)]
  | b + 1, x, m, hb, hm, hx => by
    have h0 : x ≠ 0 := by
      rintro rfl
      rw [bl_zero] at hb
      omega
    have e := bl_pos h0
    refine Ev.step (f := fun k => latchkeyref01_Len.l0 k ((m + 1 : Nat) : Int) ((x / 2 : Nat) : Int)) (fun k => ?_) (Ev.same (rLen_loop b (x / 2) (m + 1) (by omega) (by omega) (by omega)) (by congr 1; omega))
    simp only [latchkeyref01_Len.l0]
    rw [if_pos (by omega), w64 (x := (m : Int) + 1) (by omega) (by omega), show Int.tdiv (x : Int) 2 = ((x / 2 : Nat) : Int) from tdiv_nat x 2, w64 (by omega) (by omega)]
    rfl
theorem rLen_ev {n : Nat} (hn : (dd n).length < 1073741824) : Ev (fun k => latchkeyref01_Len.f k (dd n)) (bl n : Int) := by
  unfold latchkeyref01_Len.f
  by_cases h0 : n = 0
  · subst h0
    refine Ev.congr (fun k => if_pos ?_) (Ev.same (Ev.now _) (by rw [bl_zero]; rfl))
    rw [show dd 0 = [] from digs_zero _]
    rfl
  · have hne : dd n ≠ [] := fun h => h0 ((digs_eq_nil (by omega)).1 h)
    have hp : 0 < (dd n).length := List.length_pos_iff.2 hne
    obtain ⟨m, hm⟩ : ∃ m, (dd n).length = m + 1 := ⟨(dd n).length - 1, by omega⟩
    have g := Dig.getD (by omega) (dd_L n) m
    have hz : (dd n).getD m 0 ≠ 0 := (show Trim (dd n) from digs_Trim (by omega) n) _ (by rw [List.getLast?_eq_getElem?, List.getD_eq_getElem?_getD, hm, Nat.add_sub_cancel, List.getElem?_eq_getElem (by omega)]; rfl)
    obtain ⟨x, hx⟩ := Int.eq_ofNat_of_zero_le g.1
    have hb := bl_le 16 x (by omega)
    have e : bl n = 16 * m + bl x := by
      have e1 := low_all 65536 (dd n) (Nat.le_refl _)
      rw [show val 65536 (dd n) = n from vd_dd n, hm] at e1
      simp only [low] at e1
      rw [hx] at e1
      rw [← e1, pow16, Int.toNat_natCast, bl_top 16 (low 65536 (dd n) m) x m (by rw [← pow16]; exact low_lt (by omega) (dd_L n) m) (by omega)]
    refine Ev.congr (fun k => ?_) (Ev.same (rLen_loop (bl x) x (16 * m) rfl (by omega) (by omega)) (by rw [e]))
    rw [hm, if_neg (by omega), show wrap64 (((m + 1 : Nat) : Int) - 1) = (m : Int) from by rw [w64 (by omega) (by omega)]; omega, if_pos (by omega), if_pos (by omega), rd_getD, hx, w64 (by omega) (by omega)]
    rfl
theorem dd_small {n k : Nat} (h : n < 18446744073709551616 ^ k) : (dd n).length ≤ 4 * k := dd_len.2 (by rw [pow_four]; exact h)
theorem vl_lt {l : List Int} (h : L64 l) : vl l < 18446744073709551616 ^ l.length := val_lt (by omega) h
theorem wf_u64 {x : Int} (h : (Lit.int .u64 x).wf = true) : 0 ≤ x ∧ x < 18446744073709551616 := by
  simp [Lit.wf, IntKind.min, IntKind.max, IntKind.signed, IntKind.bits] at h
  omega
end Go.Proofs.Ytgnaaaliadiekaa.Q
