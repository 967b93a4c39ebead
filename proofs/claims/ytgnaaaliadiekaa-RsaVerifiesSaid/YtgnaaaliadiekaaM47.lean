/- A part of the proof (merged by pack.py, a program of this session: what the row's proof names). -/
import Derived.Test.YtgnaaaliadiekaaM4
import Derived.Test.YtgnaaaliadiekaaM16
import Derived.Test.YtgnaaaliadiekaaM22
import Derived.Test.YtgnaaaliadiekaaM27
import Derived.Test.YtgnaaaliadiekaaM29
import Derived.Test.YtgnaaaliadiekaaM32
import Derived.Test.YtgnaaaliadiekaaM33
import Derived.Test.YtgnaaaliadiekaaM41
import Derived.Test.YtgnaaaliadiekaaM45
import Derived.Test.YtgnaaaliadiekaaM46
import Derived.Test.YtgnaaaliadiekaaM0
section
namespace Go.Proofs.Ytgnaaaliadiekaa.Q
open Go.RowKit Go.Proofs.Ytgnaaaliadiekaa.B Go.Proofs.YtgnaaaliadiekaaW.PrintWords Go.Proofs.YtgnaaaliadiekaaW.PrintLast Go.Proofs.YtgnaaaliadiekaaW.PrintMore
set_option linter.unusedVariables false
set_option linter.unusedSimpArgs false
theorem drop_zero {B : Nat} (hB : 0 < B) {l : List Int} (h : Dig B l) (m : Nat) (hl : val B l < B ^ m) : val B (l.drop m) = 0 ∧ low B l m = val B l := by
 have e := low_val B l m
 rcases Nat.eq_zero_or_pos (val B (l.drop m)) with h0 | h0
 · rw [h0, Nat.mul_zero, Nat.add_zero] at e
   exact ⟨h0, e⟩
 · have := Nat.mul_le_mul_left (B ^ m) h0
   omega
theorem lt_of_drop {B : Nat} (hB : 0 < B) {l : List Int} (h : Dig B l) (m : Nat) (hz : val B (l.drop m) = 0) : val B l < B ^ m := by
 have e := low_val B l m
 rw [hz, Nat.mul_zero, Nat.add_zero] at e
 rw [← e]
 exact yfp hB h m
theorem window {B : Nat} (hB : 0 < B) {l : List Int} (h : Dig B l) (i m : Nat) (hm : i ≤ m) (hml : m ≤ l.length) (hl : val B l < B ^ m) : val B ((l.take m).drop i) = val B l / B ^ i := by
 rw [ygp hB (Dig.take h m) i (by rw [List.length_take]; omega), ← low_take B l m hml, (drop_zero hB h m hl).2]
theorem step_lt {U X E q V W L : Nat} (hV : 0 < V) (hq : q = W / V) (hX : X + E * (q * V) = L + E * W) (hL : L < E) : X < V * E := by
 have h1 := Nat.div_add_mod' W V
 have h2 := Nat.mod_lt W hV
 rw [← hq] at h1
 have h3 : E * W = E * (q * V) + E * (W % V) := by rw [← Nat.mul_add, h1]
 have h4 : E * (W % V + 1) ≤ E * V := Nat.mul_le_mul_left _ h2
 rw [Nat.mul_add, Nat.mul_one] at h4
 rw [Nat.mul_comm V E]
 omega
theorem step_div {U X E q V : Nat} (hV : 0 < V) (h : X + E * (q * V) = U) : U / V = X / V + E * q ∧ U % V = X % V := by
 subst h
 rw [← Nat.mul_assoc, Nat.add_mul_div_right _ _ hV, Nat.add_mul_mod_self_right]
 exact ⟨rfl, rfl⟩
theorem drop_alg64 {d r x R M V : Nat} (h : d * M + r = R * 18446744073709551616 + x) : (d + 18446744073709551616 * V) * M + r = x + 18446744073709551616 * (V * M + R) := by
 rw [Nat.add_mul, Nat.mul_assoc]
 omega
theorem many_ev (V : List Int) (n : Nat) (hV : L64 V) (hVl : V.length = n + 2) (hp : 0 < V.getD (n + 1) 0) (hV0 : 0 < vl V) : ∀ (i : Nat) (U q : List Int), L64 U → L64 q → i + n + 2 ≤ U.length → U.length < 1099511627776 → vl U < vl V * 18446744073709551616 ^ i → i ≤ q.length → (∀ k, k < i → q.getD k 0 = 0) →
 ∃ U' q' : List Int, Ev (fun k => ydj.many k V (n + 2) i U q) (U', q') ∧ L64 U' ∧ L64 q' ∧ U'.length = U.length ∧ q'.length = q.length ∧ vl U' = vl U % vl V ∧ vl q' = vl q + vl U / vl V := by
 intro i
 induction i with
 | zero =>
  intro U q hU hq hl hl2 hlt hiq hz
  rw [Nat.pow_zero, Nat.mul_one] at hlt
  exact ⟨U, q, Ev.now _, hU, hq, rfl, rfl, (Nat.mod_eq_of_lt hlt).symm, by rw [Nat.div_eq_of_lt hlt, Nat.add_zero]⟩
 | succ i IH =>
  intro U q hU hq hl hl2 hlt hiq hz
  have hm : i + (n + 2 + 1) ≤ U.length := by omega
  have hVlt := yim hV
  have hUT : vl U < 18446744073709551616 ^ (i + (n + 2 + 1)) := by
   rw [hVl] at hVlt
   refine Nat.lt_trans hlt ?_
   rw [show i + (n + 2 + 1) = n + 2 + (i + 1) from by omega, Nat.pow_add _ (n + 2)]
   exact Nat.mul_lt_mul_of_pos_right hVlt (Nat.pow_pos (by decide))
  have hW : L64 ((U.take (i + (n + 2 + 1))).drop i) := Dig.drop (Dig.take hU _) _
  have hWl : ((U.take (i + (n + 2 + 1))).drop i).length = n + 3 := by rw [List.length_drop, List.length_take]; omega
  have hWv : vl ((U.take (i + (n + 2 + 1))).drop i) = vl U / 18446744073709551616 ^ i := window (by decide) hU i _ (Nat.le_add_right _ _) hm hUT
  have hE : 0 < 18446744073709551616 ^ i := Nat.pow_pos (by decide)
  have hWV : vl ((U.take (i + (n + 2 + 1))).drop i) < vl V * 18446744073709551616 := by
   rw [hWv, Nat.div_lt_iff_lt_mul hE, Nat.mul_assoc, Nat.mul_comm 18446744073709551616, ← Nat.pow_succ]
   exact hlt
  obtain ⟨x, x1, x2, x3, x4⟩ := guess_ev _ V n hW hV hVl hWl (by omega) hp hWV
  rw [hWv] at x2 x3
  obtain ⟨f, U1, t1, t2, t3, t4, t5⟩ := ntake_go x x4 V U i 0 0 hV hU (by omega) (by decide) (by decide)
  have hz0 := (drop_zero (B := 18446744073709551616) (by decide) hU _ hUT).1
  have em : i + V.length + 1 = i + (n + 2 + 1) := by omega
  rw [em] at t4 t5
  have hU1 : vl U1 < 18446744073709551616 ^ (i + (n + 2 + 1)) := lt_of_drop (by decide) t3 _ (by rw [t4]; exact hz0)
  have hdm := Nat.mod_add_div (vl U) (18446744073709551616 ^ i)
  have hml := Nat.mod_lt (vl U) hE
  rw [Nat.add_zero, Nat.add_zero] at t5
  have hQ : vl U / 18446744073709551616 ^ i / vl V < 18446744073709551616 := by
   rw [Nat.div_lt_iff_lt_mul hV0, Nat.mul_comm]
   rw [hWv] at hWV
   exact hWV
  have hqi : q.getD i 0 = ((0 : Nat) : Int) := hz i (Nat.lt_succ_self i)
  have hset : ∀ d : Nat, vl (q.set i (d : Int)) = vl q + 18446744073709551616 ^ i * d := by
   intro d
   have := yea (B := 18446744073709551616) q i d 0 (by omega) hqi
   rw [Nat.mul_zero, Nat.add_zero] at this
   exact this
  have fin : ∀ X : List Int, L64 X → X.length = U.length → vl X + 18446744073709551616 ^ i * (vl U / 18446744073709551616 ^ i / vl V * vl V) = vl U % 18446744073709551616 ^ i + 18446744073709551616 ^ i * (vl U / 18446744073709551616 ^ i) →
   ∃ U' q' : List Int, Ev (fun k => ydj.many k V (n + 2) i X (q.set i ((vl U / 18446744073709551616 ^ i / vl V : Nat) : Int))) (U', q') ∧ L64 U' ∧ L64 q' ∧ U'.length = U.length ∧ q'.length = q.length ∧ vl U' = vl U % vl V ∧ vl q' = vl q + vl U / vl V := by
   intro X hX hXl hXv
   have hlt2 := step_lt (U := 0) hV0 rfl hXv hml
   rw [hdm] at hXv
   obtain ⟨s1, s2⟩ := step_div hV0 hXv
   obtain ⟨U', q', g1, g2, g3, g4, g5, g6, g7⟩ := IH X (q.set i ((vl U / 18446744073709551616 ^ i / vl V : Nat) : Int)) hX (Dig.set hq (Int.natCast_nonneg _) (Int.ofNat_lt.2 hQ)) (by omega) (by omega) hlt2 (by rw [List.length_set]; omega) (fun k hk => by rw [getD_set_ne _ _ _ _ (Nat.ne_of_gt hk)]; exact hz k (Nat.lt_succ_of_lt hk))
   refine ⟨U', q', g1, g2, g3, by rw [g4, hXl], by rw [g5, List.length_set], by rw [g6, s2], ?_⟩
   rw [g7, hset, s1]
   omega
  have open_ : ∀ (Y : List Int × List Int), Ev (fun k => if f = true then (yhy.go V U1 i 0).bind fun U2 => ydj.many k V (n + 2) i U2 (q.set i (IntKind.u64.wrap ((x : Int) - 1))) else ydj.many k V (n + 2) i U1 (q.set i (x : Int))) Y → Ev (fun k => ydj.many k V (n + 2) (i + 1) U q) Y := by
   intro Y h
   simp only [ydj.many]
   refine Ev.bind x1 ?_
   rw [show yio.go (x : Int) V U i 0 0 = some (f, U1) from t1]
   exact h
  cases hf : f with
  | false =>
   rw [hf] at t5
   simp only [Bool.false_eq_true, if_false, Nat.add_zero] at t5
   rw [← hdm] at t5
   obtain ⟨hx, hR⟩ := took_right x2 rfl hV0 t5 hml
   obtain ⟨U', q', g1, g2⟩ := fin U1 t3 t2 hR
   refine ⟨U', q', open_ _ ?_, g2⟩
   rw [hf]
   simp only [Bool.false_eq_true, if_false]
   rw [hx]
   exact g1
  | true =>
   rw [hf] at t5
   simp only [if_true] at t5
   rw [← hdm] at t5
   obtain ⟨U2, c, b1, b2, b3, b4, b5, b6⟩ := nback_go V U1 i 0 hV t3 (by omega) (by decide)
   rw [em] at b4 b6
   rw [Nat.add_zero] at b6
   have hU2 : vl U2 < 18446744073709551616 ^ (i + (n + 2 + 1)) := lt_of_drop (by decide) b3 _ (by rw [b4, t4]; exact hz0)
   obtain ⟨hx, hR⟩ := took_more x3 rfl hV0 t5 hU1 b6 hU2 b5
   obtain ⟨U', q', g1, g2⟩ := fin U2 b3 (by omega) hR
   refine ⟨U', q', open_ _ ?_, g2⟩
   have ew : IntKind.u64.wrap ((x : Int) - 1) = ((vl U / 18446744073709551616 ^ i / vl V : Nat) : Int) := by
    rw [hx, show ((vl U / 18446744073709551616 ^ i / vl V + 1 : Nat) : Int) - 1 = ((vl U / 18446744073709551616 ^ i / vl V : Nat) : Int) from by rw [Int.natCast_add]; exact Int.add_sub_cancel _ _]
    exact wk _ hQ
   rw [hf, ew]
   simp only [if_true]
   rw [show yhy.go V U1 i 0 = some U2 from b1]
   exact g1
theorem one_l0 (a b : List Int) (hA : L64 a) (ha : a.length < 1099511627776) (b0 : Nat) (hb : b.getD 0 0 = (b0 : Int)) (hbl : 0 < b.length) (hb2 : b0 < 18446744073709551616) (hp : 0 < b0) : ∀ (j R : Nat) (q : List Int), j ≤ a.length → q.length = a.length → L64 q → (∀ k, k < j → q.getD k 0 = 0) → R < b0 → vl (q.drop j) * b0 + R = vl (a.drop j) →
 Ev (fun k => ycy.l0 k a b q (R : Int) ((j : Int) - 1)) (dg (vl a / b0), dg (vl a % b0), true) := by
 intro j
 induction j with
 | zero =>
  intro R q hj hq hQ hz hR hv
  obtain ⟨d1, d2⟩ := yhn (show vl a = vl q * b0 + R from hv.symm) hR
  refine Ev.succ ?_
  simp only [ycy.l0]
  refine Ev.congr (fun k => if_neg (by decide)) ?_
  refine Ev.bind (yfw hQ (by omega)) ?_
  refine Ev.bind (Of_ev (Int.natCast_nonneg R) (Int.ofNat_lt.2 (Nat.lt_trans hR hb2))) ?_
  rw [d1, d2]
  exact Ev.now _
 | succ j IH =>
  intro R q hj hq hQ hz hR hv
  obtain ⟨x, hx, hx2⟩ := yct (by decide) hA j
  have ej : ((j + 1 : Nat) : Int) - 1 = (j : Int) := by omega
  have cj : (j : Int) < (a.length : Int) := by omega
  have cq : (j : Int) < (q.length : Int) := by omega
  have cb : (0 : Int) < (b.length : Int) := by omega
  have hb' : b.getD (0 : Int).toNat 0 = (b0 : Int) := hb
  have hrd : rd b 0 = (b0 : Int) := (ycp b 0).trans hb
  have ew : wrap64 ((j : Int) - 1) = (j : Int) - 1 := w64 (by omega) (by omega)
  have hdig : (R * 18446744073709551616 + x) / b0 < 18446744073709551616 := by
   rw [Nat.div_lt_iff_lt_mul hp]
   have := Nat.mul_le_mul_right 18446744073709551616 hR
   rw [Nat.succ_mul] at this
   rw [Nat.mul_comm 18446744073709551616 b0]
   omega
  have hd := Div64_ev R x b0 hx2 hb2 hR
  refine Ev.succ ?_
  rw [ej]
  simp only [ycy.l0, if_pos (show (j : Int) ≥ 0 from Int.natCast_nonneg j), if_pos cj, if_pos cb, ycp, hx, hrd]
  refine Ev.bind hd ?_
  simp only [if_pos cq, ew, Int.toNat_natCast]
  refine IH _ _ (by omega) (by rw [List.length_set]; exact hq) (Dig.set hQ (Int.natCast_nonneg _) (Int.ofNat_lt.2 hdig)) (fun k hk => ?_) (Nat.mod_lt _ hp) ?_
  · rw [getD_set_ne _ _ _ _ (Nat.ne_of_gt hk)]
    exact hz k (Nat.lt_succ_of_lt hk)
  · have h1 := ygg 18446744073709551616 (q.set j (((R * 18446744073709551616 + x) / b0 : Nat) : Int)) j (by rw [List.length_set]; omega)
    rw [yep _ _ _ (by omega), Int.toNat_natCast, set_drop _ _ _ _ (Nat.lt_succ_self j)] at h1
    have h2 := ygg 18446744073709551616 a j (by omega)
    rw [hx, Int.toNat_natCast] at h2
    unfold vl at hv ⊢
    rw [h1, h2, ← hv]
    exact drop_alg64 (Nat.div_add_mod' (R * 18446744073709551616 + x) b0)
end Go.Proofs.Ytgnaaaliadiekaa.Q
end
section
namespace Go.Proofs.Ytgnaaaliadiekaa.Q
open Go.RowKit Go.Proofs.Ytgnaaaliadiekaa.B Go.Proofs.YtgnaaaliadiekaaW.PrintWords Go.Proofs.YtgnaaaliadiekaaW.PrintLast Go.Proofs.YtgnaaaliadiekaaW.PrintMore
set_option linter.unusedVariables false
set_option linter.unusedSimpArgs false
theorem yho {a : List Int} (hA : L64 a) : (dg (vl a)).length ≤ a.length := ygl.2 (yim hA)
theorem dg_nil {n : Nat} (h : (dg n).length = 0) : n = 0 := (ygj (by decide)).1 (List.eq_nil_of_length_eq_zero h)
theorem dg_top {n k : Nat} (h : (dg n).length = k + 1) : ∃ t : Nat, (dg n).getD k 0 = (t : Int) ∧ 0 < t ∧ t < 18446744073709551616 ∧ 18446744073709551616 ^ k ≤ n ∧ n < (t + 1) * 18446744073709551616 ^ k := by
 obtain ⟨t, ht, ht2⟩ := yct (by decide) (dg_L n) k
 have hne : (dg n).getD k 0 ≠ 0 := (show Trim (dg n) from digs_Trim (by decide) n) _ (by rw [List.getLast?_eq_getElem?, List.getD_eq_getElem?_getD, h, Nat.add_sub_cancel, List.getElem?_eq_getElem (by omega)]; rfl)
 have htp : 0 < t := by
  rcases Nat.eq_zero_or_pos t with h0 | h0
  · rw [ht, h0] at hne
    exact absurd rfl hne
  · exact h0
 have e := ydv 18446744073709551616 (dg n) (Nat.le_of_eq h)
 rw [show val 18446744073709551616 (dg n) = n from yfj n] at e
 simp only [low] at e
 rw [ht, Int.toNat_natCast] at e
 have hl := yfp (B := 18446744073709551616) (by decide) (dg_L n) k
 refine ⟨t, ht, htp, ht2, ?_, ?_⟩
 · have := Nat.mul_le_mul_left (18446744073709551616 ^ k) htp
   omega
 · rw [← e]
   exact lt_top hl
theorem Div1_ev {a b : List Int} (hA : L64 a) (hB : L64 b) (ha : a.length < 1099511627776) (hb : b.length < 1099511627776) (h1 : (dg (vl b)).length = 1) : Ev (fun k => ycy.f k a b) (dg (vl a / vl b), dg (vl a % vl b), true) := by
 have hal := yho hA
 have hbl := yho hB
 obtain ⟨t, t1, t2, t3, t4, t5⟩ := dg_top h1
 unfold ycy.f
 refine Ev.bind (yfw hA (by omega)) ?_
 refine Ev.bind (yfw hB (by omega)) ?_
 refine Ev.congr (fun k => if_neg (by rw [h1]; decide)) ?_
 have hc := Cmp_ev (dg_L (vl a)) (dg_L (vl b)) (by omega) (by omega)
 rw [yfj, yfj] at hc
 refine Ev.bind hc ?_
 rcases Nat.lt_or_ge (vl a) (vl b) with h | h
 · have e : cmp3 (vl a) (vl b) < 0 := by unfold cmp3; rw [if_pos h]; decide
   refine Ev.congr (fun k => if_pos e) ?_
   rw [Nat.div_eq_of_lt h, Nat.mod_eq_of_lt h, show dg 0 = [] from ydp _]
   exact Ev.now _
 · have e : ¬ cmp3 (vl a) (vl b) < 0 := by unfold cmp3; rw [if_neg (by omega)]; split <;> decide
   have hvb : vl b = t := by
    rw [Nat.pow_zero, Nat.mul_one] at t5
    have := ydv 18446744073709551616 (dg (vl b)) (Nat.le_of_eq h1)
    rw [show val 18446744073709551616 (dg (vl b)) = vl b from yfj _] at this
    simp only [low] at this
    rw [t1, Int.toNat_natCast] at this
    omega
   refine Ev.congr (fun k => (if_neg e).trans ((if_pos (by rw [h1]; decide)).trans ((if_pos (Int.natCast_nonneg _)).trans (if_pos (by rw [Int.toNat_natCast]; omega))))) ?_
   have ew : wrap64 (((dg (vl a)).length : Int) - 1) = ((dg (vl a)).length : Int) - 1 := w64 (by omega) (by omega)
   rw [ew, Int.toNat_natCast]
   have hh := one_l0 (dg (vl a)) (dg (vl b)) (dg_L _) (by omega) t t1 (by omega) t3 t2 (dg (vl a)).length 0 (List.replicate (dg (vl a)).length 0) (Nat.le_refl _) List.length_replicate (Dig.zeros _ _ (by decide)) (fun k hk => by simp [List.getD, hk]) t2 (by
    rw [List.drop_eq_nil_of_le (Nat.le_refl _), List.drop_eq_nil_of_le (by rw [List.length_replicate]; exact Nat.le_refl _)]
    simp [vl, val])
   rw [yfj, ← hvb] at hh
   exact hh
theorem div_sizes {A M n la t : Nat} (hl : (dg M).length = n + 2) (hla : (dg A).length = la) (hle : n + 2 ≤ la) (ht : 0 < t) (ht2 : t < 18446744073709551616) (hM : M < (t + 1) * 18446744073709551616 ^ (n + 1)) (hM2 : 18446744073709551616 ^ (n + 1) ≤ M) :
 M * 2 ^ (64 - bl t) < 18446744073709551616 ^ (n + 2) ∧ (dg (M * 2 ^ (64 - bl t))).length = n + 2 ∧ (dg (A * 2 ^ (64 - bl t))).length ≤ la + 1 ∧ la ≤ (dg (A * 2 ^ (64 - bl t))).length ∧ A * 2 ^ (64 - bl t) < 18446744073709551616 ^ (la + 1) ∧ A * 2 ^ (64 - bl t) < M * 2 ^ (64 - bl t) * 18446744073709551616 ^ (la - (n + 2) + 1) := by
 obtain ⟨b1, b2, b3, b4⟩ := norm_shift t ht ht2
 have hs : 64 - bl t ≤ 63 := by omega
 generalize 64 - bl t = s at *
 have hP : 0 < 2 ^ s := Nat.two_pow_pos s
 have e64 : 2 ^ (64 - s) * 2 ^ s = 18446744073709551616 := by rw [← Nat.pow_add, Nat.sub_add_cancel (by omega)]
 have ht3 : (t + 1) * 2 ^ s ≤ 18446744073709551616 := by
  rw [← e64]
  refine Nat.mul_le_mul_right _ ?_
  rw [← e64] at b3
  exact Nat.lt_of_mul_lt_mul_right b3
 have h1 : M * 2 ^ s < 18446744073709551616 ^ (n + 2) := by
  have h2 := Nat.mul_lt_mul_of_pos_right hM hP
  have h3 := Nat.mul_le_mul_right (18446744073709551616 ^ (n + 1)) ht3
  have h4 : (t + 1) * 18446744073709551616 ^ (n + 1) * 2 ^ s = (t + 1) * 2 ^ s * 18446744073709551616 ^ (n + 1) := by rw [Nat.mul_right_comm]
  rw [show n + 2 = n + 1 + 1 from rfl, Nat.pow_succ _ (n + 1), Nat.mul_comm _ 18446744073709551616]
  omega
 have hA : A < 18446744073709551616 ^ la := by rw [← hla]; exact ygl.1 (Nat.le_refl _)
 have hsB : 2 ^ s ≤ 18446744073709551616 := by
  have : 2 ^ s ≤ 2 ^ 63 := Nat.pow_le_pow_right (by decide) hs
  omega
 have hAs : A * 2 ^ s < 18446744073709551616 ^ (la + 1) := by
  have h2 := Nat.mul_lt_mul_of_pos_right hA hP
  have h3 := Nat.mul_le_mul_left (18446744073709551616 ^ la) hsB
  rw [Nat.pow_succ]
  omega
 refine ⟨h1, Nat.le_antisymm (ygl.2 h1) ?_, ygl.2 hAs, ?_, hAs, ?_⟩
 · refine Nat.le_of_not_lt (fun hc => ?_)
   have h2 := ygl.1 (Nat.le_of_lt_succ hc)
   have h3 : M ≤ M * 2 ^ s := Nat.le_mul_of_pos_right _ hP
   omega
 · obtain ⟨l, rfl⟩ : ∃ l, la = l + 1 := ⟨la - 1, by omega⟩
   obtain ⟨_, _, _, _, h4, _⟩ := dg_top hla
   refine Nat.le_of_not_lt (fun hc => ?_)
   have h2 := ygl.1 (Nat.le_of_lt_succ hc)
   have h3 : A ≤ A * 2 ^ s := Nat.le_mul_of_pos_right _ hP
   omega
 · have h2 : 18446744073709551616 ^ la ≤ M * 18446744073709551616 ^ (la - (n + 2) + 1) := by
    have h3 := Nat.mul_le_mul_right (18446744073709551616 ^ (la - (n + 2) + 1)) hM2
    rw [← Nat.pow_add, show n + 1 + (la - (n + 2) + 1) = la from by omega] at h3
    exact h3
   have h3 := Nat.mul_lt_mul_of_pos_right (Nat.lt_of_lt_of_le hA h2) hP
   rw [Nat.mul_right_comm] at h3
   exact h3
theorem Div_ev {a b : List Int} (hA : L64 a) (hB : L64 b) (ha : a.length < 536870912) (hb : b.length < 536870912) (h0 : 0 < vl b) : Ev (fun k => ydj.f k a b) (dg (vl a / vl b), dg (vl a % vl b), true) := by
 have hal := yho hA
 have hbl := yho hB
 unfold ydj.f
 refine Ev.bind (yfw hA (by omega)) ?_
 refine Ev.bind (yfw hB (by omega)) ?_
 by_cases h1 : (dg (vl b)).length ≤ 1
 · have h2 : (dg (vl b)).length = 1 := by
    rcases Nat.eq_zero_or_pos (dg (vl b)).length with h | h
    · have := dg_nil h
      omega
    · omega
   exact Ev.congr (fun k => if_pos h1) (Div1_ev hA hB (by omega) (by omega) h2)
 · refine Ev.congr (fun k => if_neg h1) ?_
   generalize vl a = A at *
   generalize vl b = M at *
   have hc := Cmp_ev (dg_L A) (dg_L M) (by omega) (by omega)
   rw [yfj, yfj] at hc
   refine Ev.bind hc ?_
   rcases Nat.lt_or_ge A M with h | h
   · have e : cmp3 A M < 0 := by unfold cmp3; rw [if_pos h]; decide
     refine Ev.congr (fun k => if_pos e) ?_
     rw [Nat.div_eq_of_lt h, Nat.mod_eq_of_lt h, show dg 0 = [] from ydp _]
     exact Ev.now _
   · have e : ¬ cmp3 A M < 0 := by unfold cmp3; rw [if_neg (by omega)]; split <;> decide
     have hle : (dg M).length ≤ (dg A).length := ygl.2 (Nat.lt_of_le_of_lt h (ygl.1 (Nat.le_refl _)))
     obtain ⟨n, hn⟩ : ∃ n, (dg M).length = n + 2 := ⟨(dg M).length - 2, by omega⟩
     obtain ⟨la, hla⟩ : ∃ la, (dg A).length = la := ⟨_, rfl⟩
     obtain ⟨t, t1, t2, t3, t4, t5⟩ := dg_top hn
     obtain ⟨s1, s2, s3, s4, s5, s6⟩ := div_sizes hn hla (by omega) t2 t3 t5 t4
     have hb64 := bl_le 64 t (by omega)
     refine Ev.congr (fun k => (if_neg e).trans (if_pos ⟨by omega, hle⟩)) ?_
     have hrd : rd (dg M) (((dg M).length : Int) - 1) = (t : Int) := by
      rw [hn, show ((n + 2 : Nat) : Int) - 1 = ((n + 1 : Nat) : Int) from by omega, ycp]
      exact t1
     have eL : bits_LeadingZeros64.f (rd (dg M) (((dg M).length : Int) - 1)) = some ((64 - bl t : Nat) : Int) := by
      unfold bits_LeadingZeros64.f
      rw [hrd, Len64_ev (Int.natCast_nonneg _) (Int.ofNat_lt.2 t3), Int.toNat_natCast]
      show some (wrap64 (64 - (bl t : Int))) = _
      rw [w64 (by omega) (by omega)]
      congr 1
      omega
     rw [eL]
     refine Ev.congr (fun k => Option.bind_some _ _) ?_
     have hs63 : 64 - bl t ≤ 64 := Nat.sub_le _ _
     generalize 64 - bl t = s at *
     have ew : wrap64 (-(s : Int)) = -(s : Int) := w64 (by omega) (by omega)
     rw [ew]
     have g1 := yil (dg_L M) (by omega) s (by omega)
     rw [yfj] at g1
     refine Ev.bind g1 ?_
     have g2 := yil (dg_L A) (by omega) s (by omega)
     rw [yfj] at g2
     refine Ev.bind g2 ?_
     refine Ev.congr (fun k => if_pos ⟨by omega, by omega, by omega⟩) ?_
     have hVp : 0 < (dg (M * 2 ^ s)).getD (n + 1) 0 := by
      obtain ⟨v, v1, v2, _⟩ := dg_top s2
      rw [v1]
      exact Int.ofNat_lt.2 v2
     have hM0 : 0 < vl (dg (M * 2 ^ s)) := by
      rw [yfj]
      exact Nat.mul_pos h0 (Nat.two_pow_pos s)
     have hZ : L64 (dg (A * 2 ^ s) ++ [0, 0]) := Dig.append (dg_L _) (Dig.cons (by decide) (by decide) (Dig.cons (by decide) (by decide) (Dig.nil _)))
     have hZv : val 18446744073709551616 (dg (A * 2 ^ s) ++ [0, 0]) = A * 2 ^ s := by
      rw [val_append, show val 18446744073709551616 (dg (A * 2 ^ s)) = A * 2 ^ s from yfj _]
      simp [val]
     have hUv : vl ((dg (A * 2 ^ s) ++ [0, 0]).take ((dg A).length + 1)) = A * 2 ^ s := by
      unfold vl
      rw [← low_take _ _ _ (by rw [List.length_append]; simp; omega), (drop_zero (by decide) hZ _ (by rw [hZv, hla]; exact s5)).2, hZv]
     have hUl : ((dg (A * 2 ^ s) ++ [0, 0]).take ((dg A).length + 1)).length = la + 1 := by
      rw [List.length_take, List.length_append]
      simp
      omega
     obtain ⟨U', q', m1, m2, m3, m4, m5, m6, m7⟩ := many_ev (dg (M * 2 ^ s)) n (dg_L _) s2 hVp hM0 ((dg A).length - (dg M).length + 1) ((dg (A * 2 ^ s) ++ [0, 0]).take ((dg A).length + 1)) (List.replicate ((dg A).length - (dg M).length + 1) 0) (Dig.take hZ _) (Dig.zeros _ _ (by decide)) (by omega) (by omega) (by rw [hUv, yfj, hla, hn]; exact s6) (by rw [List.length_replicate]; exact Nat.le_refl _) (fun k hk => by simp [List.getD, hk])
     rw [hUv, yfj, Nat.mul_mod_mul_right] at m6
     rw [hUv, yfj, Nat.mul_div_mul_right _ _ (Nat.two_pow_pos s), show vl (List.replicate ((dg A).length - (dg M).length + 1) 0) = 0 from ygn _ _, Nat.zero_add] at m7
     rw [← hn] at m1
     refine Ev.bind m1 ?_
     have hq := yfw m3 (by rw [m5, List.length_replicate]; omega)
     rw [m7] at hq
     refine Ev.bind hq ?_
     have hr := yhp m2 (by omega) s (by omega)
     rw [m6, Nat.mul_div_cancel _ (Nat.two_pow_pos s)] at hr
     exact Ev.bind hr (Ev.now _)
end Go.Proofs.Ytgnaaaliadiekaa.Q
end
section
namespace Go.Proofs.Ytgnaaaliadiekaa.Q
open Go.RowKit Go.Proofs.Ytgnaaaliadiekaa.B Go.Proofs.YtgnaaaliadiekaaW.PrintWords Go.Proofs.YtgnaaaliadiekaaW.PrintLast Go.Proofs.YtgnaaaliadiekaaW.PrintMore
set_option linter.unusedVariables false
set_option linter.unusedSimpArgs false
theorem dg_fits {n k : Nat} (h : n < 18446744073709551616 ^ k) : (dg n).length ≤ k := ygl.2 h
theorem mOf_ev {a m : List Int} (hA : L64 a) (hM : L64 m) (ha : a.length < 536870912) (hm : m.length < 536870912) (h0 : 0 < vl m) : Ev (fun k => yds.f k a m) (dg (vl a % vl m), 0) := by
 unfold yds.f
 refine Ev.bind (Div_ev hA hM ha hm h0) ?_
 exact Ev.congr (fun k => if_pos rfl) (Ev.now _)
theorem mul_len {a b : List Int} (hA : L64 a) (hB : L64 b) : (dg (vl a * vl b)).length ≤ a.length + b.length := dg_fits (by rw [Nat.pow_add]; exact Nat.mul_lt_mul'' (yim hA) (yim hB))
theorem mMul_ev {a b m : List Int} (hA : L64 a) (hB : L64 b) (hM : L64 m) (ha : a.length < 134217728) (hb : b.length < 134217728) (hm : m.length < 536870912) (h0 : 0 < vl m) : Ev (fun k => ydw.f k a b m) (dg (vl a * vl b % vl m), 0) := by
 have hl := mul_len hA hB
 unfold ydw.f
 refine Ev.bind (Mul_ev hA hB (by omega) (by omega)) ?_
 have h := mOf_ev (dg_L (vl a * vl b)) hM (by omega) hm h0
 rw [yfj] at h
 exact Ev.bind h (Ev.now _)
theorem mod_fits {m : List Int} (hM : L64 m) (h0 : 0 < vl m) (x : Nat) : (dg (x % vl m)).length ≤ m.length := dg_fits (Nat.lt_trans (Nat.mod_lt _ h0) (yim hM))
def InvSt (M A r s x y : Nat) (odd : Bool) : Prop :=
 r * y + s * x = M ∧ x ≤ y ∧ Nat.gcd r s = Nat.gcd M A ∧
 (if odd = true then (∃ c, r + M * c = x * A) ∧ ∃ d, s + y * A = M * d else (∃ c, r + x * A = M * c) ∧ ∃ d, s + M * d = y * A)
theorem InvSt.step {M A r s x y : Nat} {odd : Bool} (h : InvSt M A r s x y odd) (hs : 0 < s) (hrs : s ≤ r) : InvSt M A s (r % s) y (x + r / s * y) (!odd) := by
 obtain ⟨h1, h2, h3, h4⟩ := h
 have hd := Nat.div_add_mod r s
 have hq : 1 ≤ r / s := Nat.div_pos hrs hs
 generalize r / s = q at *
 refine ⟨?_, ?_, ?_, ?_⟩
 · generalize r % s = t at *
   subst hd
   grind
 · have := Nat.mul_le_mul_right y hq
   omega
 · rw [← h3, Nat.gcd_comm r s, Nat.gcd_rec s r, Nat.gcd_comm]
 · generalize r % s = t at *
   subst hd
   cases odd with
   | false =>
    simp only [Bool.false_eq_true, if_false, Bool.not_false, if_true] at h4 ⊢
    obtain ⟨⟨c, hc⟩, d, hd⟩ := h4
    refine ⟨⟨d, hd⟩, c + q * d, ?_⟩
    have e1 : q * (s + M * d) = q * (y * A) := congrArg (q * ·) hd
    grind
   | true =>
    simp only [Bool.false_eq_true, if_false, Bool.not_true, if_true] at h4 ⊢
    obtain ⟨⟨c, hc⟩, d, hd⟩ := h4
    refine ⟨⟨d, hd⟩, c + q * d, ?_⟩
    have e1 : q * (s + y * A) = q * (M * d) := congrArg (q * ·) hd
    grind
end Go.Proofs.Ytgnaaaliadiekaa.Q
end
section
namespace Go.Proofs.Ytgnaaaliadiekaa.Q
open Go.RowKit Go.Proofs.Ytgnaaaliadiekaa.B Go.Proofs.YtgnaaaliadiekaaW.PrintWords Go.Proofs.YtgnaaaliadiekaaW.PrintLast Go.Proofs.YtgnaaaliadiekaaW.PrintMore
set_option linter.unusedVariables false
set_option linter.unusedSimpArgs false
theorem fits_of_le {n N k : Nat} (h : n ≤ N) (hN : N < 18446744073709551616 ^ k) : (dg n).length ≤ k := dg_fits (Nat.lt_of_le_of_lt h hN)
def InvTo (M A : Nat) (g : Nat → Option (List Int × Int)) : Prop :=
 (Nat.gcd M A = 1 ∧ ∃ z, z < M ∧ z * A % M = 1 % M ∧ Ev g (dg z, 0)) ∨ (Nat.gcd M A ≠ 1 ∧ Ev g ([], 5))
theorem InvTo.step {M A : Nat} {g f : Nat → Option (List Int × Int)} (h : ∀ {r}, Ev f r → Ev g r) (k : InvTo M A f) : InvTo M A g := by
 rcases k with ⟨h1, z, h2, h3, h4⟩ | ⟨h1, h2⟩
 · exact .inl ⟨h1, z, h2, h3, h h4⟩
 · exact .inr ⟨h1, h h2⟩
theorem rMod_ev (m n : Nat) (hm : (dd m).length < 1073741824) (hn : (dd n).length < 1073741824) (h0 : 0 < n) : Ev (fun k => ycb.f k (dd m) (dd n)) (dd (m % n)) := by
 unfold ycb.f
 exact Ev.bind (rDiv_ev m n hm hn h0) (Ev.now _)
end Go.Proofs.Ytgnaaaliadiekaa.Q
end
