/- The code's check of a key answers as the document's. -/
import Derived.Test.YtgnaaaliadiekaaBx0
import Derived.Test.YtgnaaaliadiekaaBx24
import Derived.Test.YtgnaaaliadiekaaBx28
import Derived.Test.YtgnaaaliadiekaaBx29
import Derived.Test.YtgnaaaliadiekaaBx30
import Derived.Test.YtgnaaaliadiekaaQK1
import Derived.Test.YtgnaaaliadiekaaQA7
namespace Go.Proofs.Ytgnaaaliadiekaa.Q
open Go.RowKit Go.Proofs.Ytgnaaaliadiekaa.B Go.Proofs.YtgnaaaliadiekaaW.PrintWords Go.Proofs.YtgnaaaliadiekaaW.PrintLast Go.Proofs.YtgnaaaliadiekaaW.PrintMore
set_option linter.unusedVariables false
theorem and1 (n : Nat) (h : n < 18446744073709551616) : Go.bits .and .u64 (n : Int) 1 = ((n % 2 : Nat) : Int) := by
  have e := bits_mask .u64 64 (by decide) u64_keeps 1 (by decide) (n : Int) (by omega) (by omega)
  exact e
theorem odd_val {B : Nat} (hB : 2 ∣ B) {l : List Int} (hl : 0 < l.length) : val B l % 2 = (rd l 0).toNat % 2 := by
  cases l with
  | nil => simp at hl
  | cons x r =>
    obtain ⟨c, rfl⟩ := hB
    have : rd (x :: r) 0 = x := rfl
    rw [this]
    show (x.toNat + 2 * c * val (2 * c) r) % 2 = _
    rw [Nat.mul_assoc]
    omega
theorem rd_head {B : Nat} (hB : 0 < B) {l : List Int} (h : Dig B l) (hl : 0 < l.length) : ∃ x : Nat, rd l 0 = (x : Int) ∧ x < B ∧ (2 ∣ B → val B l % 2 = x % 2) := by
  obtain ⟨x, h1, h2⟩ := getD_nat hB h 0
  have h3 : rd l 0 = (x : Int) := by rw [show (0 : Int) = ((0 : Nat) : Int) from rfl, rd_getD]; exact h1
  exact ⟨x, h3, h2, fun hd => by rw [odd_val hd hl, h3]; rfl⟩
/-- A key, by the numbers. -/
def KeyC (N E : Nat) : Prop := 62 ≤ (bl N + 7) / 8 ∧ (bl N + 7) / 8 ≤ 256 ∧ N % 2 = 1 ∧ 3 ≤ E ∧ E % 2 = 1 ∧ E < N
instance (N E : Nat) : Decidable (KeyC N E) := by unfold KeyC; infer_instance
theorem size_num (b : Nat) (h : b < 1000000) : wrap64 (Int.tdiv (wrap64 ((b : Int) + 7)) 8) = (((b + 7) / 8 : Nat) : Int) := by
  have e1 : wrap64 ((b : Int) + 7) = ((b + 7 : Nat) : Int) := w64 (by omega) (by omega)
  rw [e1, show Int.tdiv ((b + 7 : Nat) : Int) 8 = (((b + 7) / 8 : Nat) : Int) from tdiv_nat _ 8]
  exact w64 (by omega) (by omega)
theorem size_ev {l : List Int} (hl : L64 l) (nl : l.length < 1000) (m : List Int) : Ev (fun k => rsa_Size.f k l m) (((bl (vl l) + 7) / 8 : Nat) : Int) := by
  have hb : bl (vl l) ≤ 64 * l.length := bl_le_iff.2 (by rw [← pow64]; exact vl_lt hl)
  unfold rsa_Size.f
  refine Ev.bind (Len_ev hl (by omega)) ?_
  refine Ev.same (Ev.now _) ?_
  exact size_num _ (by omega)
theorem dd_lt1000 {l : List Int} (hl : L64 l) (nl : l.length < 1000) : (dd (vl l)).length ≤ 4000 := Nat.le_trans (dd_small (vl_lt hl)) (by omega)
theorem rsize_ev {l : List Int} (hl : L64 l) (nl : l.length < 1000) (m : List Int) : Ev (fun k => latchkeyref09_Size.f k l m) (((bl (vl l) + 7) / 8 : Nat) : Int) := by
  have hb : bl (vl l) ≤ 64 * l.length := bl_le_iff.2 (by rw [← pow64]; exact vl_lt hl)
  have hd := dd_lt1000 hl nl
  unfold latchkeyref09_Size.f
  refine Ev.bind (rOf_ev hl (by omega)) ?_
  refine Ev.bind (rLen_ev (by omega)) ?_
  refine Ev.same (Ev.now _) ?_
  exact size_num _ (by omega)
theorem len_pos {B : Nat} {l : List Int} (h : val B l ≠ 0) : 0 < l.length := by
  cases l with
  | nil => exact absurd rfl h
  | cons x r => simp
theorem cmp3_neg {a b : Nat} : cmp3 a b < 0 ↔ a < b := by
  unfold cmp3
  by_cases h : a < b
  · simp [h]
  · by_cases h2 : b < a
    · simp [h, h2]
    · simp [h, h2]
theorem check_ev {l m : List Int} (hl : L64 l) (hm : L64 m) (nl : l.length < 1000) (nm : m.length < 1000) : Ev (fun k => rsa_Check.f k l m) (if KeyC (vl l) (vl m) then 0 else 41) := by
  unfold rsa_Check.f
  refine Ev.bind (size_ev hl nl m) ?_
  by_cases c1 : (bl (vl l) + 7) / 8 < 62
  · rw [if_neg (fun h => by have := h.1; omega)]
    refine Ev.congr (fun k => if_pos (by omega)) (Ev.now _)
  refine Ev.congr (fun k => if_neg (by omega)) ?_
  by_cases c2 : 256 < (bl (vl l) + 7) / 8
  · rw [if_neg (fun h => by have := h.2.1; omega)]
    refine Ev.congr (fun k => if_pos (by omega)) (Ev.now _)
  refine Ev.congr (fun k => if_neg (by omega)) ?_
  have hl0 : vl l ≠ 0 := fun h => by rw [h, bl_zero] at c1; omega
  have hlp : 0 < l.length := len_pos hl0
  refine Ev.congr (fun k => if_pos (by omega)) ?_
  obtain ⟨x, hx, hxb, hx2⟩ := rd_head (by omega) hl hlp
  have hx2 : vl l % 2 = x % 2 := hx2 (by decide)
  rw [hx, and1 x hxb]
  by_cases c3 : x % 2 = 0
  · rw [if_neg (fun h => by have := h.2.2.1; omega)]
    refine Ev.congr (fun k => if_pos (by omega)) (Ev.now _)
  refine Ev.congr (fun k => if_neg (by omega)) ?_
  refine Ev.bind (Of_ev (n := 3) (by omega) (by omega)) ?_
  have h3 : (dg (3 : Int).toNat).length ≤ 1 := dg_len.2 (by decide)
  refine Ev.bind (Cmp_ev hm (dg_L _) (by omega) (by omega)) ?_
  rw [vl_dg, show ((3 : Int).toNat) = 3 from rfl]
  by_cases c4 : vl m < 3
  · rw [if_neg (fun h => by have := h.2.2.2.1; omega)]
    refine Ev.congr (fun k => if_pos (cmp3_neg.2 c4)) (Ev.now _)
  refine Ev.congr (fun k => if_neg (fun h => c4 (cmp3_neg.1 h))) ?_
  have hmp : 0 < m.length := len_pos (B := 18446744073709551616) (fun h => by have : vl m = 0 := h; omega)
  refine Ev.congr (fun k => if_pos (by omega)) ?_
  obtain ⟨y, hy, hyb, hy2⟩ := rd_head (by omega) hm hmp
  have hy2 : vl m % 2 = y % 2 := hy2 (by decide)
  rw [hy, and1 y hyb]
  by_cases c5 : y % 2 = 0
  · rw [if_neg (fun h => by have := h.2.2.2.2.1; omega)]
    refine Ev.congr (fun k => if_pos (by omega)) (Ev.now _)
  refine Ev.congr (fun k => if_neg (by omega)) ?_
  refine Ev.bind (Cmp_ev hm hl (by omega) (by omega)) ?_
  by_cases c6 : vl m < vl l
  · rw [show (if KeyC (vl l) (vl m) then (0 : Int) else 41) = 0 from if_pos ⟨by omega, by omega, by omega, by omega, by omega, c6⟩]
    exact Ev.congr (fun k => if_neg (by have := cmp3_neg.2 c6; omega)) (Ev.now _)
  · rw [show (if KeyC (vl l) (vl m) then (0 : Int) else 41) = 41 from if_neg (fun h => c6 h.2.2.2.2.2)]
    exact Ev.congr (fun k => if_pos (Int.not_lt.1 (fun h => c6 (cmp3_neg.1 h)))) (Ev.now _)
theorem dd3 : dd 3 = [3] := by decide +kernel
theorem rsaRef_ev {l m : List Int} (hl : L64 l) (hm : L64 m) (nl : l.length < 1000) (nm : m.length < 1000) (pl : vl l ≠ 0) (pm : vl m ≠ 0) : Ev (fun k => latchkeyref09_Rsa.f k l m) (decide (KeyC (vl l) (vl m))) := by
  have dl := dd_lt1000 hl nl
  have dm := dd_lt1000 hm nm
  unfold latchkeyref09_Rsa.f
  refine Ev.bind (rOf_ev hl (by omega)) ?_
  refine Ev.bind (rOf_ev hm (by omega)) ?_
  refine Ev.bind (rsize_ev hl nl m) ?_
  by_cases c1 : (bl (vl l) + 7) / 8 < 62
  · rw [decide_eq_false (fun h => by have := h.1; omega)]
    refine Ev.congr (fun k => if_neg (by omega)) (Ev.now _)
  refine Ev.congr (fun k => if_pos (by omega)) ?_
  refine Ev.bind (rsize_ev hl nl m) ?_
  by_cases c2 : 256 < (bl (vl l) + 7) / 8
  · rw [decide_eq_false (fun h => by have := h.2.1; omega)]
    refine Ev.congr (fun k => if_neg (by omega)) (Ev.now _)
  refine Ev.congr (fun k => if_pos (by omega)) ?_
  have hlp : 0 < (dd (vl l)).length := len_pos (B := 65536) (fun h => pl (by rw [← vd_dd (vl l)]; exact h))
  have hmp : 0 < (dd (vl m)).length := len_pos (B := 65536) (fun h => pm (by rw [← vd_dd (vl m)]; exact h))
  refine Ev.congr (fun k => if_pos (by omega)) ?_
  refine Ev.congr (fun k => if_pos (by omega)) ?_
  obtain ⟨x, hx, hxb, hx2⟩ := rd_head (by omega) (dd_L (vl l)) hlp
  have hx2 : vl l % 2 = x % 2 := by have h := hx2 (by decide); rwa [show val 65536 (dd (vl l)) = vl l from vd_dd _] at h
  rw [hx, show Int.tmod (x : Int) 2 = ((x % 2 : Nat) : Int) from tmod_nat _ 2]
  by_cases c3 : x % 2 = 0
  · rw [decide_eq_false (fun h => by have := h.2.2.1; omega)]
    refine Ev.congr (fun k => if_neg (by omega)) (Ev.now _)
  refine Ev.congr (fun k => if_pos (by omega)) ?_
  refine Ev.bind (Small_ev 3 (by decide)) ?_
  refine Ev.bind (rcmp_ev (vl m) 3 (by omega)) ?_
  by_cases c4 : vl m < 3
  · rw [decide_eq_false (fun h => by have := h.2.2.2.1; omega)]
    refine Ev.congr (fun k => if_neg (by have := cmp3_neg.2 c4; omega)) (Ev.now _)
  refine Ev.congr (fun k => if_pos (Int.not_lt.1 (fun h => c4 (cmp3_neg.1 h)))) ?_
  refine Ev.congr (fun k => if_pos (by omega)) ?_
  obtain ⟨y, hy, hyb, hy2⟩ := rd_head (by omega) (dd_L (vl m)) hmp
  have hy2 : vl m % 2 = y % 2 := by have h := hy2 (by decide); rwa [show val 65536 (dd (vl m)) = vl m from vd_dd _] at h
  rw [hy, show Int.tmod (y : Int) 2 = ((y % 2 : Nat) : Int) from tmod_nat _ 2]
  by_cases c5 : y % 2 = 0
  · rw [decide_eq_false (fun h => by have := h.2.2.2.2.1; omega)]
    refine Ev.congr (fun k => if_neg (by omega)) (Ev.now _)
  refine Ev.congr (fun k => if_pos (by omega)) ?_
  refine Ev.bind (rcmp_ev (vl m) (vl l) (by omega)) ?_
  refine Ev.same (Ev.now _) ?_
  by_cases c6 : vl m < vl l
  · rw [decide_eq_true (cmp3_neg.2 c6), decide_eq_true ⟨by omega, by omega, by omega, by omega, by omega, c6⟩]
  · rw [decide_eq_false (fun h => c6 (cmp3_neg.1 h)), decide_eq_false (fun h => c6 h.2.2.2.2.2)]
theorem KeyOk_ev {l m : List Int} (hl : L64 l) (hm : L64 m) (nl : l.length < 1000) (nm : m.length < 1000) : ∃ K, ∀ k, K ≤ k → KeyOk k l m := by
  have dl := dd_lt1000 hl nl
  have dm := dd_lt1000 hm nm
  obtain ⟨K1, h1⟩ := rOf_ev hl (by omega)
  obtain ⟨K2, h2⟩ := rLen_ev (n := vl l) (by omega)
  obtain ⟨K3, h3⟩ := rOf_ev hm (by omega)
  obtain ⟨K4, h4⟩ := rLen_ev (n := vl m) (by omega)
  obtain ⟨K5, h5⟩ := check_ev hl hm nl nm
  obtain ⟨K6, h6⟩ := size_ev hl nl m
  obtain ⟨K7, h7⟩ := rsize_ev hl nl m
  have h8 : ∃ K, ∀ k, K ≤ k → 0 < (bl (vl l) : Int) → 0 < (bl (vl m) : Int) → latchkeyref09_Rsa.f k l m = some (decide (KeyC (vl l) (vl m))) := by
    by_cases pl : vl l = 0
    · exact ⟨0, fun k _ h => by rw [pl, bl_zero] at h; omega⟩
    by_cases pm : vl m = 0
    · exact ⟨0, fun k _ _ h => by rw [pm, bl_zero] at h; omega⟩
    obtain ⟨K, h⟩ := rsaRef_ev hl hm nl nm pl pm
    exact ⟨K, fun k hk _ _ => h k hk⟩
  obtain ⟨K8, h8⟩ := h8
  refine ⟨K1 + K2 + K3 + K4 + K5 + K6 + K7 + K8, fun k hk => ⟨_, _, _, _, _, _, _, h1 k (by omega), h2 k (by omega), h3 k (by omega), h4 k (by omega), h8 k (by omega), h5 k (by omega), ?_, h6 k (by omega), h7 k (by omega)⟩⟩
  by_cases c : KeyC (vl l) (vl m)
  · have p1 : bl (vl l) ≠ 0 := fun h => by have := c.1; rw [h] at this; omega
    have p2 : bl (vl m) ≠ 0 := fun h => by
      have h3 := c.2.2.2.1
      have := lt_bl (vl m)
      rw [h] at this
      omega
    rw [if_pos c, if_pos ⟨by omega, by omega, decide_eq_true c⟩]
  · rw [if_neg c, if_neg (fun h => c (of_decide_eq_true h.2.2))]
end Go.Proofs.Ytgnaaaliadiekaa.Q
