/- A part of the proof (merged by pack.py, a program of this session: what the row's proof names). -/
import Derived.Test.YtgnaaaliadiekaaM4
import Derived.Test.YtgnaaaliadiekaaM18
import Derived.Test.YtgnaaaliadiekaaM19
import Derived.Test.YtgnaaaliadiekaaM20
import Derived.Test.YtgnaaaliadiekaaM21
import Derived.Test.YtgnaaaliadiekaaM30
import Derived.Test.YtgnaaaliadiekaaM41
import Derived.Test.YtgnaaaliadiekaaM44
import Derived.Test.YtgnaaaliadiekaaM0
section
namespace Go.Proofs.Ytgnaaaliadiekaa.Q
open Go.RowKit Go.Proofs.Ytgnaaaliadiekaa.B Go.Proofs.YtgnaaaliadiekaaW.PrintWords Go.Proofs.YtgnaaaliadiekaaW.PrintLast Go.Proofs.YtgnaaaliadiekaaW.PrintMore
set_option linter.unusedVariables false
set_option linter.unusedSectionVars false
set_option linter.unusedSimpArgs false
theorem Ev.succ {α : Type} {g : Nat → Option α} {r : α} (h : Ev (fun k => g (k + 1)) r) : Ev g r := Ev.step (fun _ => rfl) h
theorem lt_top {L P b : Nat} (h : L < P) : L + P * b < (b + 1) * P := by
 rw [Nat.add_mul, Nat.one_mul, Nat.mul_comm b]
 omega
theorem drop_alg {d r x R M V : Nat} (h : d * M + r = x + 65536 * R) : (d + 65536 * V) * M + r = x + 65536 * (V * M + R) := by
 rw [Nat.add_mul, Nat.mul_assoc]
 omega
theorem mx_one (t : Nat) : mx (t : Int) 1 = ((max t 1 : Nat) : Int) := by unfold mx; split <;> omega
theorem times_ok {P R M x b1 t : Nat} (hx : x * P ≤ R) (hM : M < (b1 + 1) * P) (hR : M ≤ R) (ht : t = max (x / (b1 + 1)) 1) : t * M ≤ R := by
 rcases Nat.lt_or_ge 1 (x / (b1 + 1)) with h | h
 · have e : t = x / (b1 + 1) := by omega
   have h1 : t * (b1 + 1) ≤ x := by rw [e]; exact Nat.div_mul_le_self _ _
   have h2 : t * M ≤ t * ((b1 + 1) * P) := Nat.mul_le_mul_left _ (Nat.le_of_lt hM)
   have h3 : t * (b1 + 1) * P ≤ x * P := Nat.mul_le_mul_right _ h1
   rw [Nat.mul_assoc] at h3
   omega
 · have e : t = 1 := by omega
   rw [e, Nat.one_mul]
   exact hR
theorem top_one (l : List Int) (m : Nat) (h : l.length = m + 1) : val 65536 l = low 65536 l m + 65536 ^ m * (l.getD m 0).toNat := by
 have e := ydv 65536 l (Nat.le_of_eq h)
 simp only [low] at e
 exact e.symm
theorem top_two (l : List Int) (m : Nat) (h : l.length = m + 2) : val 65536 l = low 65536 l m + 65536 ^ m * ((l.getD m 0).toNat + 65536 * (l.getD (m + 1) 0).toNat) := by
 have e := ydv 65536 l (Nat.le_of_eq h)
 simp only [low] at e
 rw [← e, Nat.pow_succ]
 grind
theorem ygt {m n : Nat} (h : m ≤ n) : (dd m).length ≤ (dd n).length := yft.2 (Nat.lt_of_le_of_lt h (yft.1 (Nat.le_refl _)))
theorem digit_sum {a t M R T : Nat} (h : a * M + R = T) (ht : t * M ≤ R) : (a + t) * M + (R - M * t) = T := by
 rw [Nat.add_mul, Nat.mul_comm M t]
 omega
theorem digit_small {a M R T : Nat} (h : a * M + R = T) (hT : T < 65536 * M) : a < 65536 := by
 rcases Nat.lt_or_ge a 65536 with h1 | h1
 · exact h1
 · have := Nat.mul_le_mul_right M h1
   omega
theorem times_num (x b1 : Nat) (hx : x < 4294967296) (hb : b1 < 65536) : wrap64 ((b1 : Int) + 1) = ((b1 + 1 : Nat) : Int) ∧ ¬ (((b1 + 1 : Nat) : Int) = 0) ∧ wrap64 (Int.tdiv (x : Int) ((b1 + 1 : Nat) : Int)) = ((x / (b1 + 1) : Nat) : Int) ∧ max (x / (b1 + 1)) 1 < 4294967297 := by
 have h := Nat.div_le_self x (b1 + 1)
 rw [show Int.tdiv (x : Int) ((b1 + 1 : Nat) : Int) = ((x / (b1 + 1) : Nat) : Int) from yed _ _]
 generalize x / (b1 + 1) = d at *
 exact ⟨w64 (by omega) (by omega), by omega, w64 (by omega) (by omega), by omega⟩
theorem two_dig (u v : Nat) (hu : u < 65536) (hv : v < 65536) : wrap64 ((u : Int) + wrap64 (65536 * (v : Int))) = ((u + 65536 * v : Nat) : Int) ∧ u + 65536 * v < 4294967296 := by
 refine ⟨?_, by omega⟩
 rw [w64 (x := 65536 * (v : Int)) (by omega) (by omega), w64 (by omega) (by omega)]
 omega
section
variable (a : List Int) (hA : L16 a) (ha : a.length < 1073741824) (M : Nat) (hM0 : 0 < M) (hM : (dd M).length < 1073741824)
include hA ha hM0 hM
theorem rDiv_l1 (i T : Nat) (hi : i < a.length) (hT : T < 65536 * M) (res : List Int × List Int) : ∀ (R qi : Nat) (q : List Int), q.length = a.length → q.getD i 0 = (qi : Int) → qi * M + R = T →
 Ev (fun k => yan.l0 k a (dd M) (q.set i ((T / M : Nat) : Int)) (dd (T % M)) ((dd M).length : Int) (wrap64 ((i : Int) - 1))) res →
 Ev (fun k => yan.l1 k a (dd M) q (dd R) ((dd M).length : Int) (i : Int)) res := by
 intro R
 induction R using Nat.strongRecOn with
 | _ R IH =>
  intro qi q hq hqi hv next
  have hR64 : (dd R).length ≤ (dd M).length + 1 := by
   refine yft.2 ?_
   have h1 := yft.1 (Nat.le_refl (dd M).length)
   rw [Nat.pow_succ]
   omega
  have hRl : (dd R).length < 1099511627776 := by omega
  have hMl : (dd M).length < 1099511627776 := by omega
  have hcmp := rcmp_ev R M (by omega)
  rcases Nat.lt_or_ge R M with h | h
  · have e : cmp3 R M = -1 := by unfold cmp3; rw [if_pos h]
    rw [e] at hcmp
    obtain ⟨d1, d2⟩ := yhn hv.symm h
    rw [d1, d2, set_same q i _ (by omega) hqi] at next
    refine Ev.succ ?_
    simp only [yan.l1]
    exact Ev.bind hcmp (Ev.congr (fun k => if_neg (by decide)) next)
  · have e : cmp3 R M ≥ 0 := by unfold cmp3; rw [if_neg (by omega)]; split <;> omega
    have hml : (dd M).length ≤ (dd R).length := ygt h
    have hmp : 0 < (dd M).length := List.length_pos_iff.2 (fun h0 => Nat.ne_of_gt hM0 ((ygj (by decide)).1 h0))
    obtain ⟨m, hm⟩ : ∃ m, (dd M).length = m + 1 := ⟨(dd M).length - 1, by omega⟩
    obtain ⟨b1, hb1, hb2⟩ := yct (by decide) (dd_L M) m
    have eM := top_one (dd M) m hm
    have eM2 := yfp (B := 65536) (by decide) (dd_L M) m
    rw [show val 65536 (dd M) = M from ygm M, hb1, Int.toNat_natCast] at eM
    have hMb : M < (b1 + 1) * 65536 ^ m := by
     rw [eM]
     exact lt_top eM2
    have w1 : wrap64 (((dd M).length : Int) - 1) = (m : Int) := by rw [hm, w64 (by omega) (by omega)]; omega
    have c1 : (m : Int) < ((dd R).length : Int) := by omega
    have c2 : (m : Int) < ((dd M).length : Int) := by omega
    have ci : (i : Int) < (q.length : Int) := by omega
    have tail : ∀ x : Nat, x < 4294967296 → x * 65536 ^ m ≤ R → ∀ X : Int, X = ((max (x / (b1 + 1)) 1 : Nat) : Int) →
     Ev (fun k => (yat.f k X).bind fun t380 => ((yaf.f k (dd M) t380).bind fun t383 => ((ybb.f k (dd R) t383).bind fun t386 => (if 0 ≤ (i : Int) then (if (i : Int) < (q.length : Int) then (yan.l1 k a (dd M) (q.set (i : Int).toNat (wrap64 ((rd q (i : Int)) + X))) t386 ((dd M).length : Int) (i : Int)) else (none)) else (none))))) res := by
     intro x hx hxR X hX
     obtain ⟨n1, n2, n3, n4⟩ := times_num x b1 hx hb2
     have htm := times_ok hxR hMb h rfl
     have ht1 : 1 ≤ max (x / (b1 + 1)) 1 := Nat.le_max_right _ _
     generalize max (x / (b1 + 1)) 1 = t at *
     subst hX
     have hMt : M * t ≤ R := by rw [Nat.mul_comm]; exact htm
     have htl : (dd (M * t)).length ≤ (dd R).length := ygt hMt
     have hpos : 0 < M * t := Nat.mul_pos hM0 ht1
     have hds := digit_sum hv htm
     have hqs := digit_small hds hT
     have hw : wrap64 ((qi : Int) + (t : Int)) = ((qi + t : Nat) : Int) := w64 (by omega) (by omega)
     refine Ev.bind (Small_ev t (by omega)) ?_
     refine Ev.bind (rMul_ev M t hMl (by have := dd_len63 (n := t) (by omega); omega)) ?_
     refine Ev.bind (rSub_ev R (M * t) hRl (by omega) hMt) ?_
     simp only [if_pos (Int.natCast_nonneg i), if_pos ci, ycp, hqi, hw, Int.toNat_natCast]
     refine IH (R - M * t) (by omega) (qi + t) (q.set i ((qi + t : Nat) : Int)) (by rw [List.length_set]; exact hq) (yep _ _ _ (by omega)) hds ?_
     rw [List.set_set]
     exact next
    refine Ev.succ ?_
    simp only [yan.l1]
    refine Ev.bind hcmp ?_
    obtain ⟨u, hu, hu2⟩ := yct (by decide) (dd_L R) m
    simp only [if_pos e, w1, if_pos (Int.natCast_nonneg m), if_pos c1]
    by_cases hlen : (dd R).length = m + 1
    · have hno : ¬ ((dd R).length : Int) > ((dd M).length : Int) := by omega
      have eR := top_one (dd R) m hlen
      rw [show val 65536 (dd R) = R from ygm R, hu, Int.toNat_natCast] at eR
      obtain ⟨n1, n2, n3, n4⟩ := times_num u b1 (by omega) hb2
      simp only [if_neg hno, if_pos c2, ycp, hu, hb1, n1, if_neg n2, n3, mx_one]
      refine tail u (by omega) ?_ _ rfl
      rw [Nat.mul_comm, eR]
      exact Nat.le_add_left _ _
    · have hlen2 : (dd R).length = m + 2 := by omega
      have hyes : ((dd R).length : Int) > ((dd M).length : Int) := by omega
      have c3 : ((dd M).length : Int) < ((dd R).length : Int) := hyes
      obtain ⟨v, hv1, hv2⟩ := yct (by decide) (dd_L R) (m + 1)
      have eR := top_two (dd R) m hlen2
      rw [show val 65536 (dd R) = R from ygm R, hu, hv1, Int.toNat_natCast, Int.toNat_natCast] at eR
      obtain ⟨t1, t2⟩ := two_dig u v hu2 hv2
      obtain ⟨n1, n2, n3, n4⟩ := times_num (u + 65536 * v) b1 t2 hb2
      have hv3 : (dd R).getD (dd M).length 0 = (v : Int) := by rw [hm]; exact hv1
      simp only [if_pos hyes, if_pos (Int.natCast_nonneg (dd M).length), if_pos c3, if_pos c2, ycp, hu, hv3, hb1, t1, n1, if_neg n2, n3, mx_one]
      refine tail (u + 65536 * v) t2 ?_ _ rfl
      rw [Nat.mul_comm, eR]
      exact Nat.le_add_left _ _
theorem rDiv_l0 : ∀ (j R : Nat) (q : List Int), j ≤ a.length → q.length = a.length → L16 q → (∀ k, k < j → q.getD k 0 = 0) → R < M → vd (q.drop j) * M + R = vd (a.drop j) →
 Ev (fun k => yan.l0 k a (dd M) q (dd R) ((dd M).length : Int) ((j : Int) - 1)) (dd (vd a / M), dd (vd a % M)) := by
 intro j
 induction j with
 | zero =>
  intro R q hj hq hQ hz hR hv
  obtain ⟨d1, d2⟩ := yhn (show vd a = vd q * M + R from hv.symm) hR
  refine Ev.succ ?_
  simp only [yan.l0]
  refine Ev.congr (fun k => if_neg (by decide)) ?_
  refine Ev.bind (yhr hQ (by omega)) ?_
  rw [d1, d2]
  exact Ev.now _
 | succ j IH =>
  intro R q hj hq hQ hz hR hv
  obtain ⟨x, hx, hx2⟩ := yct (by decide) hA j
  have ej : ((j + 1 : Nat) : Int) - 1 = (j : Int) := by omega
  have cj : (j : Int) < (a.length : Int) := by omega
  have hRl : (dd R).length ≤ (dd M).length := ygt (Nat.le_of_lt hR)
  have hl1 : [(x : Int)].length + (dd R).length < 17592186044416 := by simp; omega
  have hT : x + 65536 * R < 65536 * M := by omega
  have hqj : q.getD j 0 = ((0 : Nat) : Int) := hz j (Nat.lt_succ_self j)
  have eT : vd ([(x : Int)] ++ dd R) = x + 65536 * R := by
   show (x : Int).toNat + 65536 * vd (dd R) = _
   rw [ygm, Int.toNat_natCast]
  have hM2 : 0 < M := hM0
  have hdig : (x + 65536 * R) / M < 65536 := by
   rw [Nat.div_lt_iff_lt_mul hM2]
   exact hT
  refine Ev.succ ?_
  rw [ej]
  simp only [yan.l0, if_pos (show (j : Int) ≥ 0 from Int.natCast_nonneg j), if_pos cj, ycp, hx, Option.bind_some]
  refine Ev.congr (fun k => if_pos hl1) ?_
  refine Ev.bind (yhr (Dig.cons (Int.natCast_nonneg x) (Int.ofNat_lt.2 hx2) (dd_L R)) (by simpa [Nat.add_comm] using hl1)) ?_
  rw [eT]
  refine rDiv_l1 a hA ha M hM0 hM j (x + 65536 * R) (by omega) hT _ (x + 65536 * R) 0 q hq hqj (by omega) ?_
  have ew : wrap64 ((j : Int) - 1) = (j : Int) - 1 := w64 (by omega) (by omega)
  rw [ew]
  refine IH _ _ (by omega) (by rw [List.length_set]; exact hq) (Dig.set hQ (Int.natCast_nonneg _) (Int.ofNat_lt.2 hdig)) (fun k hk => ?_) (Nat.mod_lt _ hM2) ?_
  · rw [getD_set_ne _ _ _ _ (Nat.ne_of_gt hk)]
    exact hz k (Nat.lt_succ_of_lt hk)
  · have h1 := ygg 65536 (q.set j (((x + 65536 * R) / M : Nat) : Int)) j (by rw [List.length_set]; omega)
    rw [yep _ _ _ (by omega), Int.toNat_natCast, set_drop _ _ _ _ (Nat.lt_succ_self j)] at h1
    have h2 := ygg 65536 a j (by omega)
    rw [hx, Int.toNat_natCast] at h2
    unfold vd at hv ⊢
    rw [h1, h2, ← hv]
    have h3 := Nat.div_add_mod' (x + 65536 * R) M
    generalize (x + 65536 * R) / M = d at *
    generalize (x + 65536 * R) % M = r at *
    exact drop_alg h3
theorem rDiv_ev' : Ev (fun k => yan.f k a (dd M)) (dd (vd a / M), dd (vd a % M)) := by
 unfold yan.f
 have ew : wrap64 ((a.length : Int) - 1) = (a.length : Int) - 1 := w64 (by omega) (by omega)
 rw [ew]
 refine Ev.congr (fun k => (if_pos (by omega)).trans (if_pos (by omega))) ?_
 have h := rDiv_l0 a hA ha M hM0 hM a.length 0 (List.replicate a.length 0) (Nat.le_refl _) List.length_replicate (Dig.zeros _ _ (by decide)) (fun k hk => by simp [List.getD, hk]) hM0 (by
  rw [List.drop_eq_nil_of_le (Nat.le_refl _), List.drop_eq_nil_of_le (by rw [List.length_replicate]; exact Nat.le_refl _)]
  simp [vd, val])
 rw [show dd 0 = [] from ydp _] at h
 exact h
end
theorem rDiv_ev (m n : Nat) (hm : (dd m).length < 1073741824) (hn : (dd n).length < 1073741824) (h0 : 0 < n) : Ev (fun k => yan.f k (dd m) (dd n)) (dd (m / n), dd (m % n)) := by
 have h := rDiv_ev' (dd m) (dd_L m) hm n h0 hn
 rw [ygm] at h
 exact h
end Go.Proofs.Ytgnaaaliadiekaa.Q
end
section
namespace Go.Proofs.Ytgnaaaliadiekaa.Q
open Go.RowKit Go.Proofs.Ytgnaaaliadiekaa.B Go.Proofs.YtgnaaaliadiekaaW.PrintWords Go.Proofs.YtgnaaaliadiekaaW.PrintLast Go.Proofs.YtgnaaaliadiekaaW.PrintMore
set_option linter.unusedVariables false
set_option linter.unusedSimpArgs false
theorem ygp {B : Nat} (hB : 0 < B) {a : List Int} (hA : Dig B a) (q : Nat) (hq : q ≤ a.length) : val B (a.drop q) = val B a / B ^ q := by
 have e := ygf B a q hq
 have h : val B (a.take q) < B ^ q := by
  have := ygo hB (Dig.take hA q)
  rw [List.length_take, Nat.min_eq_left hq] at this
  exact this
 rw [e, Nat.add_mul_div_left _ _ (Nat.pow_pos hB), Nat.div_eq_of_lt h, Nat.zero_add]
theorem yil {a : List Int} (hA : L64 a) (ha : a.length < 1099511627776) (m : Nat) (hm : m < 1099511627776) : Ev (fun k => yav.f k a (-(m : Int))) (dg (vl a * 2 ^ m)) := by
 rcases Nat.eq_zero_or_pos m with h0 | h0
 · subst h0
   have h := yhp hA ha 0 (by decide)
   rw [Nat.pow_zero, Nat.div_one] at h
   rw [Nat.pow_zero, Nat.mul_one]
   exact h
 · exact Shift_up_ev hA ha m hm h0
end Go.Proofs.Ytgnaaaliadiekaa.Q
end
