/- A part of the proof (merged by pack.py, a program of this session: what the row's proof names). -/
import Derived.Test.YtgnaaaliadiekaaM4
import Derived.Test.YtgnaaaliadiekaaM31
import Derived.Test.YtgnaaaliadiekaaM41
import Derived.Test.YtgnaaaliadiekaaM45
import Derived.Test.YtgnaaaliadiekaaM0
section
namespace Go.Proofs.Ytgnaaaliadiekaa.Q
open Go.RowKit Go.Proofs.Ytgnaaaliadiekaa.B Go.Proofs.YtgnaaaliadiekaaW.PrintWords Go.Proofs.YtgnaaaliadiekaaW.PrintLast Go.Proofs.YtgnaaaliadiekaaW.PrintMore
set_option linter.unusedVariables false
set_option linter.unusedSimpArgs false
theorem guess_key {B x v1 v2 t u0 u1 u2 : Nat} (h : x * v1 + t = u0 * B + u1) : x * (v1 * B + v2) + (t * B + u2) = (u0 * B + u1) * B + u2 + x * v2 := by
 rw [← h]
 grind
theorem first_guess {B q r v1 v2 T u2 : Nat} (h : q * v1 + r = T) (hr : r < v1) (hu : u2 < B) : T * B + u2 < (q + 1) * (v1 * B + v2) := by
 have h1 : T + 1 ≤ (q + 1) * v1 := by rw [Nat.add_mul, Nat.one_mul]; omega
 have h2 := Nat.mul_le_mul_right B h1
 rw [Nat.add_mul, Nat.one_mul, Nat.mul_assoc] at h2
 have h3 : (q + 1) * (v1 * B + v2) = (q + 1) * (v1 * B) + (q + 1) * v2 := Nat.mul_add _ _ _
 omega
theorem over_le {U3 x w z y2 u2 : Nat} (h : y2 + (z + u2) = U3 + x) (h1 : x ≤ w) (h2 : w ≤ z) : y2 ≤ U3 := by omega
theorem top_le {B P u0 u1 u2 ul v1 v2 wl : Nat} (hw : wl < P) (hv : v2 < B) (hu1 : u1 < B) (hu2 : u2 < B) (h : ((u0 * B + u1) * B + u2) * P + ul < ((v1 * B + v2) * P + wl) * B) : u0 ≤ v1 := by
 rcases Nat.lt_or_ge v1 u0 with hc | hc
 · have h1 : (v1 + 1) * (B * B * P) ≤ u0 * (B * B * P) := Nat.mul_le_mul_right _ hc
   have h2 : (v1 * B + v2) * P + wl ≤ (v1 + 1) * (B * P) := by
    have h3 : (v1 * B + v2 + 1) * P ≤ (v1 * B + B) * P := Nat.mul_le_mul_right _ (by omega)
    have h4 : (v1 * B + B) * P = (v1 + 1) * (B * P) := by grind
    rw [Nat.add_mul, Nat.one_mul] at h3
    omega
   have h5 := Nat.mul_le_mul_right B h2
   have h6 : (v1 + 1) * (B * P) * B = (v1 + 1) * (B * B * P) := by grind
   have h7 : ((u0 * B + u1) * B + u2) * P = u0 * (B * B * P) + u1 * (B * P) + u2 * P := by grind
   omega
 · exact hc
theorem guess_test {z t u2 h l : Nat} (hz : h * 18446744073709551616 + l = z) (hl : l < 18446744073709551616) (hu : u2 < 18446744073709551616) :
 (h < t → z ≤ t * 18446744073709551616 + u2) ∧ (h = t → (z ≤ t * 18446744073709551616 + u2 ↔ l ≤ u2)) ∧ (t < h → t * 18446744073709551616 + u2 < z) := by
 refine ⟨fun _ => ?_, fun _ => ?_, fun _ => ?_⟩ <;> omega
section
variable (u v : List Int) (n : Nat) (hu : L64 u) (hv : L64 v) (hn : v.length = n + 2) (hun : u.length = n + 3) (hlen : n < 1099511627776)
variable (u0 u1 u2 v1 v2 : Nat) (e0 : u.getD (n + 2) 0 = (u0 : Int)) (e1 : u.getD (n + 1) 0 = (u1 : Int)) (e2 : u.getD n 0 = (u2 : Int)) (f1 : v.getD (n + 1) 0 = (v1 : Int)) (f2 : v.getD n 0 = (v2 : Int))
variable (hu2 : u2 < 18446744073709551616) (hv1 : v1 < 18446744073709551616) (hv2 : v2 < 18446744073709551616)
theorem guess_j2 (hlen : n < 1099511627776) (hn : v.length = n + 2) (f1 : v.getD (n + 1) 0 = (v1 : Int)) (hv1 : v1 < 18446744073709551616) (x t : Nat) (ht : t < 18446744073709551616) (hx : x < 18446744073709551616) (hx0 : 0 < x) (hp : 0 < v1) (r : Int)
 (over : 18446744073709551616 ≤ t + v1 → r = ((x - 1 : Nat) : Int)) (next : t + v1 < 18446744073709551616 → Ev (fun k => ybp.l0 k u v ((n + 2 : Nat) : Int) ((x - 1 : Nat) : Int) ((t + v1 : Nat) : Int)) r) :
 Ev (fun k => ybp.j2 k u v ((n + 2 : Nat) : Int) (x : Int) (t : Int) false) r := by
 have w1 : wrap64 (((n + 2 : Nat) : Int) - 1) = ((n + 1 : Nat) : Int) := by rw [w64 (by omega) (by omega)]; omega
 have c1 : ((n + 1 : Nat) : Int) < (v.length : Int) := by omega
 have ex : IntKind.u64.wrap ((x : Int) - 1) = ((x - 1 : Nat) : Int) := by rw [show (x : Int) - 1 = ((x - 1 : Nat) : Int) from by omega]; exact wk _ (by omega)
 refine Ev.succ ?_
 simp only [ybp.j2, w1, if_pos (Int.natCast_nonneg (n + 1)), if_pos c1, ycp, f1, ex]
 refine Ev.congr (fun k => if_neg (by decide)) ?_
 by_cases h : 18446744073709551616 ≤ t + v1
 · have e : IntKind.u64.wrap ((t : Int) + (v1 : Int)) < (v1 : Int) := by rw [show (t : Int) + (v1 : Int) = ((t + v1 : Nat) : Int) from rfl, wm]; omega
   refine Ev.congr (fun k => if_pos e) ?_
   rw [over h]
   exact Ev.now _
 · have e : IntKind.u64.wrap ((t : Int) + (v1 : Int)) = ((t + v1 : Nat) : Int) := wk (t + v1) (by omega)
   rw [e]
   exact Ev.congr (fun k => if_neg (by omega)) (next (by omega))
theorem guess_l0 (hu : L64 u) (hv : L64 v) (hn : v.length = n + 2) (hun : u.length = n + 3) (hlen : n < 1099511627776) (e2 : u.getD n 0 = (u2 : Int)) (f1 : v.getD (n + 1) 0 = (v1 : Int)) (f2 : v.getD n 0 = (v2 : Int))
 (hu2 : u2 < 18446744073709551616) (hv1 : v1 < 18446744073709551616) (hv2 : v2 < 18446744073709551616) (hp : 0 < v1) (Q U3 T : Nat) (hU3 : U3 = T * 18446744073709551616 + u2) (hQ : ∀ x, U3 < x * (v1 * 18446744073709551616 + v2) → Q < x) :
 ∀ (x t : Nat), x < 18446744073709551616 → t < 18446744073709551616 → x * v1 + t = T → Q ≤ x → ∃ r : Nat, Ev (fun k => ybp.l0 k u v ((n + 2 : Nat) : Int) (x : Int) (t : Int)) (r : Int) ∧ Q ≤ r ∧ r < 18446744073709551616 ∧ r * (v1 * 18446744073709551616 + v2) ≤ U3 := by
 intro x
 induction x with
 | zero =>
  intro t hx ht h hq
  refine ⟨0, ?_, hq, hx, by omega⟩
  have w2 : wrap64 (((n + 2 : Nat) : Int) - 2) = (n : Int) := by rw [w64 (by omega) (by omega)]; omega
  have c1 : (n : Int) < (v.length : Int) := by omega
  have c2 : (n : Int) < (u.length : Int) := by omega
  have hM := yhq 0 v2 hx hv2
  rw [Nat.zero_mul] at hM
  refine Ev.succ ?_
  simp only [ybp.l0, w2, if_pos (Int.natCast_nonneg n), if_pos c1, if_pos c2, ycp, f2, e2, hM, Option.bind_some]
  have last : Ev (fun k => ybp.j2 k u v ((n + 2 : Nat) : Int) ((0 : Nat) : Int) (t : Int) true) ((0 : Nat) : Int) := by
   refine Ev.succ ?_
   simp only [ybp.j2, if_true]
   exact Ev.now _
  by_cases h0 : 0 < t
  · exact Ev.congr (fun k => if_pos (by show ((0 / 18446744073709551616 : Nat) : Int) < (t : Int); omega)) last
  · refine Ev.congr (fun k => (if_neg (by show ¬ ((0 / 18446744073709551616 : Nat) : Int) < (t : Int); omega)).trans (if_pos (by show ((0 / 18446744073709551616 : Nat) : Int) = (t : Int); omega))) ?_
    have : decide (((0 % 18446744073709551616 : Nat) : Int) ≤ (u2 : Int)) = true := decide_eq_true (by omega)
    rw [this]
    exact last
 | succ x IH =>
  intro t hx ht h hq
  have w2 : wrap64 (((n + 2 : Nat) : Int) - 2) = (n : Int) := by rw [w64 (by omega) (by omega)]; omega
  have c1 : (n : Int) < (v.length : Int) := by omega
  have c2 : (n : Int) < (u.length : Int) := by omega
  have hM := yhq (x + 1) v2 hx hv2
  have hz : (x + 1) * v2 / 18446744073709551616 * 18446744073709551616 + (x + 1) * v2 % 18446744073709551616 = (x + 1) * v2 := Nat.div_add_mod' _ _
  have hl : (x + 1) * v2 % 18446744073709551616 < 18446744073709551616 := Nat.mod_lt _ (by decide)
  obtain ⟨t1, t2, t3⟩ := guess_test (t := t) hz hl hu2
  have key := guess_key (B := 18446744073709551616) (v2 := v2) (u0 := 0) (u1 := T) (u2 := u2) (show (x + 1) * v1 + t = 0 * 18446744073709551616 + T by omega)
  rw [Nat.zero_mul, Nat.zero_add, ← hU3] at key
  have good : (x + 1) * v2 ≤ t * 18446744073709551616 + u2 → (x + 1) * (v1 * 18446744073709551616 + v2) ≤ U3 := by intro hg; omega
  have bad : t * 18446744073709551616 + u2 < (x + 1) * v2 → U3 < (x + 1) * (v1 * 18446744073709551616 + v2) := by intro hg; omega
  have last : Ev (fun k => ybp.j2 k u v ((n + 2 : Nat) : Int) ((x + 1 : Nat) : Int) (t : Int) true) ((x + 1 : Nat) : Int) := by
   refine Ev.succ ?_
   simp only [ybp.j2, if_true]
   exact Ev.now _
  have less : t * 18446744073709551616 + u2 < (x + 1) * v2 → ∃ r : Nat, Ev (fun k => ybp.j2 k u v ((n + 2 : Nat) : Int) ((x + 1 : Nat) : Int) (t : Int) false) (r : Int) ∧ Q ≤ r ∧ r < 18446744073709551616 ∧ r * (v1 * 18446744073709551616 + v2) ≤ U3 := by
   intro hg
   have hq2 := hQ _ (bad hg)
   have h2 : x * v1 + (t + v1) = T := by rw [Nat.add_mul, Nat.one_mul] at h; omega
   by_cases ho : 18446744073709551616 ≤ t + v1
   · refine ⟨x, guess_j2 u v n v1 hlen hn f1 hv1 (x + 1) t ht hx (by omega) hp _ (fun _ => by rw [Nat.add_sub_cancel]) (fun h3 => absurd ho (by omega)), by omega, by omega, ?_⟩
     have key2 := guess_key (B := 18446744073709551616) (v2 := v2) (u0 := 0) (u1 := T) (u2 := u2) (show x * v1 + (t + v1) = 0 * 18446744073709551616 + T by omega)
     rw [Nat.zero_mul, Nat.zero_add, ← hU3] at key2
     have h4 : x * v2 ≤ 18446744073709551616 * 18446744073709551616 := Nat.mul_le_mul (by omega) (by omega)
     have h5 : 18446744073709551616 * 18446744073709551616 ≤ (t + v1) * 18446744073709551616 := Nat.mul_le_mul_right _ ho
     exact over_le key2 h4 h5
   · obtain ⟨r, g1, g2, g3, g4⟩ := IH (t + v1) (by omega) (by omega) h2 (by omega)
     exact ⟨r, guess_j2 u v n v1 hlen hn f1 hv1 (x + 1) t ht hx (by omega) hp _ (fun h3 => absurd h3 ho) (fun _ => by rw [Nat.add_sub_cancel]; exact g1), g2, g3, g4⟩
  have go : ∀ (b : Bool) (r : Nat), Ev (fun k => ybp.j2 k u v ((n + 2 : Nat) : Int) ((x + 1 : Nat) : Int) (t : Int) b) (r : Int) →
   (b = if (x + 1) * v2 / 18446744073709551616 < t then true else if (x + 1) * v2 / 18446744073709551616 = t then decide ((x + 1) * v2 % 18446744073709551616 ≤ u2) else false) →
   Ev (fun k => ybp.l0 k u v ((n + 2 : Nat) : Int) ((x + 1 : Nat) : Int) (t : Int)) (r : Int) := by
   intro b r hb hbe
   refine Ev.succ ?_
   simp only [ybp.l0, w2, if_pos (Int.natCast_nonneg n), if_pos c1, if_pos c2, ycp, f2, e2, hM, Option.bind_some]
   generalize (x + 1) * v2 / 18446744073709551616 = hh at *
   generalize (x + 1) * v2 % 18446744073709551616 = ll at *
   by_cases h1 : hh < t
   · rw [if_pos h1] at hbe
     subst hbe
     exact Ev.congr (fun k => if_pos (Int.ofNat_lt.2 h1)) hb
   · rw [if_neg h1] at hbe
     refine Ev.congr (fun k => if_neg (fun h2 => h1 (Int.ofNat_lt.1 h2))) ?_
     by_cases h2 : hh = t
     · rw [if_pos h2] at hbe
       subst hbe
       refine Ev.congr (fun k => if_pos (by rw [h2])) ?_
       have e : decide ((ll : Int) ≤ (u2 : Int)) = decide (ll ≤ u2) := by
        by_cases h3 : ll ≤ u2
        · rw [decide_eq_true h3, decide_eq_true (Int.ofNat_le.2 h3)]
        · rw [decide_eq_false h3, decide_eq_false (fun h4 => h3 (Int.ofNat_le.1 h4))]
       rw [e]
       exact hb
     · rw [if_neg h2] at hbe
       subst hbe
       exact Ev.congr (fun k => if_neg (fun h3 => h2 (Int.ofNat_inj.1 h3))) hb
  rcases Nat.lt_trichotomy ((x + 1) * v2 / 18446744073709551616) t with hc | hc | hc
  · exact ⟨x + 1, go true _ last (by rw [if_pos hc]), hq, hx, good (t1 hc)⟩
  · by_cases hd : (x + 1) * v2 % 18446744073709551616 ≤ u2
    · exact ⟨x + 1, go true _ last (by rw [if_neg (Nat.not_lt.2 (Nat.le_of_eq hc.symm)), if_pos hc, decide_eq_true hd]), hq, hx, good ((t2 hc).2 hd)⟩
    · obtain ⟨r, g1, g2⟩ := less (Nat.lt_of_not_le (fun h3 => hd ((t2 hc).1 h3)))
      exact ⟨r, go false _ g1 (by rw [if_neg (Nat.not_lt.2 (Nat.le_of_eq hc.symm)), if_pos hc, decide_eq_false hd]), g2⟩
  · obtain ⟨r, g1, g2⟩ := less (t3 hc)
    exact ⟨r, go false _ g1 (by rw [if_neg (Nat.not_lt.2 (Nat.le_of_lt hc)), if_neg (Nat.ne_of_gt hc)]), g2⟩
end
theorem guess_core (u v : List Int) (n : Nat) (hu : L64 u) (hv : L64 v) (hn : v.length = n + 2) (hun : u.length = n + 3) (hlen : n < 1099511627776) (u0 u1 u2 v1 v2 P ul wl : Nat)
 (e0 : u.getD (n + 2) 0 = (u0 : Int)) (h0 : u0 < 18446744073709551616) (e1 : u.getD (n + 1) 0 = (u1 : Int)) (h1 : u1 < 18446744073709551616) (e2 : u.getD n 0 = (u2 : Int)) (h2 : u2 < 18446744073709551616) (f1 : v.getD (n + 1) 0 = (v1 : Int)) (k1 : v1 < 18446744073709551616) (f2 : v.getD n 0 = (v2 : Int)) (k2 : v2 < 18446744073709551616) (hp1 : 0 < v1)
 (lu : ul < P) (lv : wl < P) (HU : Aside0 (((u0 * 18446744073709551616 + u1) * 18446744073709551616 + u2) * P + ul < ((v1 * 18446744073709551616 + v2) * P + wl) * 18446744073709551616)) :
 ∃ r : Nat, Ev (fun k => ybp.f k u v) (r : Int) ∧ (((u0 * 18446744073709551616 + u1) * 18446744073709551616 + u2) * P + ul) / ((v1 * 18446744073709551616 + v2) * P + wl) ≤ r ∧ r ≤ (((u0 * 18446744073709551616 + u1) * 18446744073709551616 + u2) * P + ul) / ((v1 * 18446744073709551616 + v2) * P + wl) + 1 ∧ r < 18446744073709551616 := by
 have hBV : 18446744073709551616 ≤ v1 * 18446744073709551616 + v2 := by
  have h : 1 * 18446744073709551616 ≤ v1 * 18446744073709551616 := Nat.mul_le_mul_right _ hp1
  rw [Nat.one_mul] at h
  exact Nat.le_trans h (Nat.le_add_right _ _)
 have hQ : ∀ x, (u0 * 18446744073709551616 + u1) * 18446744073709551616 + u2 < x * (v1 * 18446744073709551616 + v2) → (((u0 * 18446744073709551616 + u1) * 18446744073709551616 + u2) * P + ul) / ((v1 * 18446744073709551616 + v2) * P + wl) < x := fun x hx => kn_lt lu hx
 have fin : ∀ r : Nat, r < 18446744073709551616 → r * (v1 * 18446744073709551616 + v2) ≤ (u0 * 18446744073709551616 + u1) * 18446744073709551616 + u2 → r ≤ (((u0 * 18446744073709551616 + u1) * 18446744073709551616 + u2) * P + ul) / ((v1 * 18446744073709551616 + v2) * P + wl) + 1 := fun r hr h => kn_le lv hr hBV h
 have hVp : 0 < (v1 * 18446744073709551616 + v2) * P + wl := Nat.lt_of_lt_of_le (Nat.mul_pos (Nat.lt_of_lt_of_le (by decide) hBV) (Nat.lt_of_le_of_lt (Nat.zero_le _) lu)) (Nat.le_add_right _ _)
 have hQB : (((u0 * 18446744073709551616 + u1) * 18446744073709551616 + u2) * P + ul) / ((v1 * 18446744073709551616 + v2) * P + wl) < 18446744073709551616 := by
  rw [Nat.div_lt_iff_lt_mul hVp, Nat.mul_comm 18446744073709551616 _]
  exact HU.out
 have w1 : wrap64 ((v.length : Int) - 1) = ((n + 1 : Nat) : Int) := by rw [hn, w64 (by omega) (by omega)]; omega
 have c0 : (v.length : Int) < (u.length : Int) := by omega
 have c1 : ((n + 1 : Nat) : Int) < (v.length : Int) := by omega
 have c2 : ((n + 1 : Nat) : Int) < (u.length : Int) := by omega
 have e0' : u.getD v.length 0 = (u0 : Int) := by rw [hn]; exact e0
 have j0 : ∀ (x t r : Nat), Ev (fun k => ybp.l0 k u v ((n + 2 : Nat) : Int) (x : Int) (t : Int)) (r : Int) → Ev (fun k => ybp.j0 k u v (v.length : Int) (x : Int) (t : Int)) (r : Int) := by
  intro x t r h
  refine Ev.succ ?_
  simp only [ybp.j0]
  rw [hn]
  exact h
 unfold ybp.f
 simp only [w1, if_pos (Int.natCast_nonneg v.length), if_pos c0, if_pos (Int.natCast_nonneg (n + 1)), if_pos c1, if_pos c2, ycp, e0', e1, f1]
 by_cases hlt : u0 < v1
 · simp only [if_pos (Int.ofNat_lt.2 hlt)]
   have hd := Div64_ev u0 u1 v1 h1 k1 hlt
   have hdm := Nat.div_add_mod' (u0 * 18446744073709551616 + u1) v1
   have hml := Nat.mod_lt (u0 * 18446744073709551616 + u1) hp1
   have hqb : (u0 * 18446744073709551616 + u1) / v1 < 18446744073709551616 := by
    rw [Nat.div_lt_iff_lt_mul hp1]
    have := Nat.mul_le_mul_right 18446744073709551616 hlt
    rw [Nat.succ_mul] at this
    rw [Nat.mul_comm 18446744073709551616 v1]
    omega
   have hq0 : (((u0 * 18446744073709551616 + u1) * 18446744073709551616 + u2) * P + ul) / ((v1 * 18446744073709551616 + v2) * P + wl) ≤ (u0 * 18446744073709551616 + u1) / v1 := by
    refine Nat.le_of_lt_succ (hQ _ ?_)
    exact first_guess hdm hml h2
   obtain ⟨r, g1, g2, g3, g4⟩ := guess_l0 u v n u2 v1 v2 hu hv hn hun hlen e2 f1 f2 h2 k1 k2 hp1 _ _ (u0 * 18446744073709551616 + u1) rfl hQ ((u0 * 18446744073709551616 + u1) / v1) ((u0 * 18446744073709551616 + u1) % v1) hqb (Nat.lt_trans hml k1) hdm hq0
   exact ⟨r, Ev.bind hd (j0 _ _ _ g1), g2, fin r g3 g4, g3⟩
 · simp only [if_neg (fun h => hlt (Int.ofNat_lt.1 h))]
   have hue : u0 = v1 := Nat.le_antisymm (top_le lv k2 h1 h2 HU.out) (Nat.le_of_not_lt hlt)
   have hT : 18446744073709551615 * v1 + (u1 + v1) = u0 * 18446744073709551616 + u1 := by rw [hue]; omega
   by_cases ho : 18446744073709551616 ≤ u1 + v1
   · have e : IntKind.u64.wrap ((u1 : Int) + (v1 : Int)) < (v1 : Int) := by rw [show (u1 : Int) + (v1 : Int) = ((u1 + v1 : Nat) : Int) from rfl, wm]; clear hQB HU fin hQ hBV lu lv hVp hT; omega
     simp only [if_pos e]
     have key := guess_key (B := 18446744073709551616) (v2 := v2) (u2 := u2) hT
     have h4 : 18446744073709551615 * v2 ≤ 18446744073709551616 * 18446744073709551616 := Nat.mul_le_mul (by decide) (Nat.le_of_lt k2)
     have h5 : 18446744073709551616 * 18446744073709551616 ≤ (u1 + v1) * 18446744073709551616 := Nat.mul_le_mul_right _ ho
     refine ⟨18446744073709551615, Ev.now _, Nat.le_of_lt_succ hQB, fin _ (by decide) (over_le key h4 h5), by decide⟩
   · have e : IntKind.u64.wrap ((u1 : Int) + (v1 : Int)) = ((u1 + v1 : Nat) : Int) := wk (u1 + v1) (Nat.lt_of_not_le ho)
     have hno : ¬ ((u1 + v1 : Nat) : Int) < (v1 : Int) := fun h => Nat.lt_irrefl _ (Nat.lt_of_le_of_lt (Nat.le_add_left v1 u1) (Int.ofNat_lt.1 h))
     rw [e]
     simp only [if_neg hno]
     obtain ⟨r, g1, g2, g3, g4⟩ := guess_l0 u v n u2 v1 v2 hu hv hn hun hlen e2 f1 f2 h2 k1 k2 hp1 _ _ (u0 * 18446744073709551616 + u1) rfl hQ 18446744073709551615 (u1 + v1) (by decide) (Nat.lt_of_not_le ho) hT (Nat.le_of_lt_succ hQB)
     exact ⟨r, j0 _ _ _ g1, g2, fin r g3 g4, g3⟩
theorem guess_ev (u v : List Int) (n : Nat) (hu : L64 u) (hv : L64 v) (hn : v.length = n + 2) (hun : u.length = n + 3) (hlen : n < 1099511627776) (hp : 0 < v.getD (n + 1) 0) (hUV : vl u < vl v * 18446744073709551616) :
 ∃ r : Nat, Ev (fun k => ybp.f k u v) (r : Int) ∧ vl u / vl v ≤ r ∧ r ≤ vl u / vl v + 1 ∧ r < 18446744073709551616 := by
 obtain ⟨u0, e0, h0⟩ := yct (by decide) hu (n + 2)
 obtain ⟨u1, e1, h1⟩ := yct (by decide) hu (n + 1)
 obtain ⟨u2, e2, h2⟩ := yct (by decide) hu n
 obtain ⟨v1, f1, k1⟩ := yct (by decide) hv (n + 1)
 obtain ⟨v2, f2, k2⟩ := yct (by decide) hv n
 have hp1 : 0 < v1 := by rw [f1] at hp; exact Int.ofNat_lt.1 hp
 have tu := low_top3 18446744073709551616 u n hun
 have tv := low_top2 18446744073709551616 v n hn
 rw [e0, e1, e2, Int.toNat_natCast, Int.toNat_natCast, Int.toNat_natCast] at tu
 rw [f1, f2, Int.toNat_natCast, Int.toNat_natCast] at tv
 have lu : val 18446744073709551616 (u.take n) < 18446744073709551616 ^ n := by
  have := ygo (B := 18446744073709551616) (by decide) (Dig.take hu n)
  rw [List.length_take, Nat.min_eq_left (by omega)] at this
  exact this
 have lv : val 18446744073709551616 (v.take n) < 18446744073709551616 ^ n := by
  have := ygo (B := 18446744073709551616) (by decide) (Dig.take hv n)
  rw [List.length_take, Nat.min_eq_left (by omega)] at this
  exact this
 show ∃ r : Nat, Ev (fun k => ybp.f k u v) (r : Int) ∧ val 18446744073709551616 u / val 18446744073709551616 v ≤ r ∧ r ≤ val 18446744073709551616 u / val 18446744073709551616 v + 1 ∧ r < 18446744073709551616
 have hUV2 : val 18446744073709551616 u < val 18446744073709551616 v * 18446744073709551616 := hUV
 rw [tu, tv] at hUV2 ⊢
 exact guess_core u v n hu hv hn hun hlen u0 u1 u2 v1 v2 _ _ _ e0 h0 e1 h1 e2 h2 f1 k1 f2 k2 hp1 lu lv ⟨hUV2⟩
end Go.Proofs.Ytgnaaaliadiekaa.Q
end
