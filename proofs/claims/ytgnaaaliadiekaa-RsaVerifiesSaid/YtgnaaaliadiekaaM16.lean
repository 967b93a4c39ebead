/- A part of the proof (merged by pack.py, a program of this session: what the row's proof names). -/
import Derived.Test.YtgnaaaliadiekaaM4
import Derived.Test.YtgnaaaliadiekaaM8
import Derived.Test.YtgnaaaliadiekaaM11
import Derived.Test.YtgnaaaliadiekaaM12
import Derived.Test.YtgnaaaliadiekaaM13
import Derived.Test.YtgnaaaliadiekaaM15
import Derived.Test.YtgnaaaliadiekaaM0
import Derived.Laws.BitsLemmas
import Derived.Lib.Mul64
section
namespace Go.Proofs.Ytgnaaaliadiekaa.Q
open Go.RowKit Go.Proofs.Ytgnaaaliadiekaa.B Go.Proofs.YtgnaaaliadiekaaW.PrintWords Go.Proofs.YtgnaaaliadiekaaW.PrintLast Go.Proofs.YtgnaaaliadiekaaW.PrintMore
set_option linter.unusedVariables false
def bl (n : Nat) : Nat := if h : n = 0 then 0 else 1 + bl (n / 2)
termination_by n
decreasing_by exact Nat.div_lt_self (by omega) (by omega)
theorem yfu : bl 0 = 0 := by rw [bl]; simp
theorem bl_pos {n : Nat} (h : n ≠ 0) : bl n = 1 + bl (n / 2) := by rw [bl, dif_neg h]
theorem bl_shift : ∀ (k n : Nat), 2 ^ k ≤ n → bl n = k + bl (n / 2 ^ k)
 | 0, n, _ => by simp
 | k + 1, n, h => by
  have hp : 0 < 2 ^ k := Nat.two_pow_pos k
  have h2 : 2 ^ k ≤ n / 2 := by rw [Nat.pow_succ] at h; omega
  rw [bl_pos (by rw [Nat.pow_succ] at h; omega), bl_shift k (n / 2) h2, Nat.div_div_eq_div_mul, Nat.pow_succ, Nat.mul_comm 2]
  omega
theorem bl_aux : ∀ (f n : Nat), n < 2 ^ f → Lib.bitLenAux f n = bl n
 | 0, n, h => by
  have : n = 0 := by simpa using h
  subst this
  rw [yfu]
  rfl
 | f + 1, n, h => by
  unfold Lib.bitLenAux
  by_cases h0 : n = 0
  · rw [if_pos h0, h0, yfu]
  · rw [if_neg h0, bl_pos h0, bl_aux f (n / 2) (by rw [Nat.pow_succ] at h; omega)]
theorem bl_lib {n : Nat} (h : n < 18446744073709551616) : Lib.bitLen n = bl n := bl_aux 64 n h
theorem bl_le : ∀ (k n : Nat), n < 2 ^ k → bl n ≤ k
 | 0, n, h => by
  have : n = 0 := by simpa using h
  subst this
  rw [yfu]
  exact Nat.le_refl _
 | k + 1, n, h => by
  by_cases h0 : n = 0
  · subst h0; rw [yfu]; omega
  · rw [bl_pos h0]
    have := bl_le k (n / 2) (by rw [Nat.pow_succ] at h; omega)
    omega
theorem lt_bl (n : Nat) : n < 2 ^ bl n := by
 induction n using Nat.strongRecOn with
 | _ n ih =>
  by_cases h0 : n = 0
  · subst h0; rw [yfu]; omega
  · rw [bl_pos h0, Nat.add_comm, Nat.pow_succ]
    have := ih (n / 2) (by omega)
    omega
theorem yge {n k : Nat} : bl n ≤ k ↔ n < 2 ^ k := ⟨fun h => Nat.lt_of_lt_of_le (lt_bl n) (Nat.pow_le_pow_right (by omega) h), bl_le k n⟩
theorem bl_top (e p x i : Nat) (hp : p < 2 ^ (e * i)) (hx : 0 < x) : bl (p + 2 ^ (e * i) * x) = e * i + bl x := by
 have hP : 0 < 2 ^ (e * i) := Nat.two_pow_pos _
 have h1 : 2 ^ (e * i) ≤ p + 2 ^ (e * i) * x := by
  have : 2 ^ (e * i) * 1 ≤ 2 ^ (e * i) * x := Nat.mul_le_mul_left _ hx
  omega
 rw [bl_shift (e * i) _ h1, Nat.add_mul_div_left _ _ hP, Nat.div_eq_of_lt hp, Nat.zero_add]
theorem pow64 (i : Nat) : 18446744073709551616 ^ i = 2 ^ (64 * i) := by rw [Nat.pow_mul]
theorem pow16 (i : Nat) : 65536 ^ i = 2 ^ (16 * i) := by rw [Nat.pow_mul]
theorem Len64_ev {n : Int} (h0 : 0 ≤ n) (h1 : n < 18446744073709551616) : bits_Len64.f n = some (bl n.toNat : Int) := by
 unfold bits_Len64.f
 rw [if_pos h0, if_pos (by omega), bl_lib (by omega)]
theorem Len_loop (l : List Int) (hL : L64 l) (hn : l.length < 1099511627776) : ∀ i : Nat, i ≤ l.length → Ev (fun k => ydm.l0 k l ((i : Int) - 1)) (bl (low 18446744073709551616 l i) : Int)
 | 0, _ => by
  refine Ev.step (f := fun _ => some 0) (fun k => ?_) (Ev.same (Ev.now _) ?_)
  · simp only [ydm.l0]
    rw [if_neg (by omega)]
  · simp only [low, yfu]
    rfl
 | i + 1, hi => by
  have ih := Len_loop l hL hn i (by omega)
  have e0 : ((i + 1 : Nat) : Int) - 1 = (i : Int) := by omega
  have e1 : wrap64 ((i : Int) - 1) = (i : Int) - 1 := w64 (by omega) (by omega)
  have g := Dig.getD (by omega) hL i
  rw [e0]
  by_cases hz : l.getD i 0 = 0
  · refine Ev.step (f := fun k => ydm.l0 k l ((i : Int) - 1)) (fun k => ?_) (Ev.same ih ?_)
    · simp only [ydm.l0]
      rw [if_pos (by omega), if_pos (by omega), if_pos (by omega), ycp, if_pos hz, e1]
    · simp only [low, hz]
      simp
  · have hb := bl_le 64 (l.getD i 0).toNat (by omega)
    refine Ev.step (f := fun _ => some ((64 * i + bl (l.getD i 0).toNat : Nat) : Int)) (fun k => ?_) (Ev.same (Ev.now _) ?_)
    · simp only [ydm.l0]
      rw [if_pos (by omega), if_pos (by omega), if_pos (by omega), ycp, if_neg hz, Len64_ev g.1 (by omega)]
      simp only [Option.bind_some]
      rw [w64 (x := 64 * (i : Int)) (by omega) (by omega), w64 (by omega) (by omega)]
      congr 1
    · simp only [low]
      rw [pow64, bl_top 64 _ _ i (by rw [← pow64]; exact yfp (by omega) hL i) (by omega)]
theorem Len_ev {l : List Int} (hL : L64 l) (hn : l.length < 1099511627776) : Ev (fun k => ydm.f k l) (bl (vl l) : Int) := by
 unfold ydm.f
 rw [w64 (by omega) (by omega)]
 have h := Len_loop l hL hn l.length (Nat.le_refl _)
 rw [ydv _ l (Nat.le_refl _)] at h
 exact h
theorem rLen_loop : ∀ (b x m : Nat), bl x = b → m + b < 1099511627776 → x < 1099511627776 → Ev (fun k => yaq.l0 k (m : Int) (x : Int)) ((m + b : Nat) : Int)
 | 0, x, m, hb, hm, hx => by
  have h0 : x = 0 := by
   have := lt_bl x
   rw [hb] at this
   omega
  refine Ev.step (f := fun _ => some (m : Int)) (fun k => ?_) (Ev.same (Ev.now _) (by simp))
  simp only [yaq.l0]
  rw [if_neg (by omega)]
 | b + 1, x, m, hb, hm, hx => by
  have h0 : x ≠ 0 := by
   rintro rfl
   rw [yfu] at hb
   omega
  have e := bl_pos h0
  refine Ev.step (f := fun k => yaq.l0 k ((m + 1 : Nat) : Int) ((x / 2 : Nat) : Int)) (fun k => ?_) (Ev.same (rLen_loop b (x / 2) (m + 1) (by omega) (by omega) (by omega)) (by congr 1; omega))
  simp only [yaq.l0]
  rw [if_pos (by omega), w64 (x := (m : Int) + 1) (by omega) (by omega), show Int.tdiv (x : Int) 2 = ((x / 2 : Nat) : Int) from yed x 2, w64 (by omega) (by omega)]
  rfl
theorem rLen_ev {n : Nat} (hn : (dd n).length < 1073741824) : Ev (fun k => yaq.f k (dd n)) (bl n : Int) := by
 unfold yaq.f
 by_cases h0 : n = 0
 · subst h0
   refine Ev.congr (fun k => if_pos ?_) (Ev.same (Ev.now _) (by rw [yfu]; rfl))
   rw [show dd 0 = [] from ydp _]
   rfl
 · have hne : dd n ≠ [] := fun h => h0 ((ygj (by omega)).1 h)
   have hp : 0 < (dd n).length := List.length_pos_iff.2 hne
   obtain ⟨m, hm⟩ : ∃ m, (dd n).length = m + 1 := ⟨(dd n).length - 1, by omega⟩
   have g := Dig.getD (by omega) (dd_L n) m
   have hz : (dd n).getD m 0 ≠ 0 := (show Trim (dd n) from digs_Trim (by omega) n) _ (by rw [List.getLast?_eq_getElem?, List.getD_eq_getElem?_getD, hm, Nat.add_sub_cancel, List.getElem?_eq_getElem (by omega)]; rfl)
   obtain ⟨x, hx⟩ := Int.eq_ofNat_of_zero_le g.1
   have hb := bl_le 16 x (by omega)
   have e : bl n = 16 * m + bl x := by
    have e1 := ydv 65536 (dd n) (Nat.le_refl _)
    rw [show val 65536 (dd n) = n from ygm n, hm] at e1
    simp only [low] at e1
    rw [hx] at e1
    rw [← e1, pow16, Int.toNat_natCast, bl_top 16 (low 65536 (dd n) m) x m (by rw [← pow16]; exact yfp (by omega) (dd_L n) m) (by omega)]
   refine Ev.congr (fun k => ?_) (Ev.same (rLen_loop (bl x) x (16 * m) rfl (by omega) (by omega)) (by rw [e]))
   rw [hm, if_neg (by omega), show wrap64 (((m + 1 : Nat) : Int) - 1) = (m : Int) from by rw [w64 (by omega) (by omega)]; omega, if_pos (by omega), if_pos (by omega), ycp, hx, w64 (by omega) (by omega)]
   rfl
theorem dd_small {n k : Nat} (h : n < 18446744073709551616 ^ k) : (dd n).length ≤ 4 * k := yft.2 (by rw [pow_four]; exact h)
theorem yim {l : List Int} (h : L64 l) : vl l < 18446744073709551616 ^ l.length := ygo (by omega) h
theorem wf_u64 {x : Int} (h : (Lit.int .u64 x).wf = true) : 0 ≤ x ∧ x < 18446744073709551616 := by
 simp [Lit.wf, IntKind.min, IntKind.max, IntKind.signed, IntKind.bits] at h
 omega
end Go.Proofs.Ytgnaaaliadiekaa.Q
end
section
namespace Go.Proofs.Ytgnaaaliadiekaa.Q
open Go.RowKit Go.Proofs.Ytgnaaaliadiekaa.B Go.Proofs.YtgnaaaliadiekaaW.PrintWords Go.Proofs.YtgnaaaliadiekaaW.PrintLast Go.Proofs.YtgnaaaliadiekaaW.PrintMore
set_option linter.unusedVariables false
theorem adds_nat (x y c : Nat) : yeb (x : Int) (y : Int) (c : Int) = (((x + y + c) % 18446744073709551616 : Nat) : Int) := by simp [yeb]
theorem addc_nat (x y c : Nat) : yff (x : Int) (y : Int) (c : Int) = (((x + y + c) / 18446744073709551616 : Nat) : Int) := by simp [yff]
theorem yct {B : Nat} (hB : 0 < B) {l : List Int} (h : Dig B l) (i : Nat) : ∃ x : Nat, l.getD i 0 = (x : Int) ∧ x < B := by
 have g := Dig.getD hB h i
 obtain ⟨x, hx⟩ := Int.eq_ofNat_of_zero_le g.1
 exact ⟨x, hx, by have := g.2; rw [hx] at this; exact Int.ofNat_lt.1 this⟩
theorem low_set_ge {B : Nat} (l : List Int) (n : Nat) (x : Int) : ∀ i, i ≤ n → low B (l.set n x) i = low B l i
 | 0, _ => rfl
 | i + 1, h => by
  simp only [low]
  rw [low_set_ge l n x i (by omega), List.getD_eq_getElem?_getD, List.getD_eq_getElem?_getD, List.getElem?_set_ne (by omega)]
theorem yep (l : List Int) (n : Nat) (x : Int) (h : n < l.length) : (l.set n x).getD n 0 = x := by
 rw [List.getD_eq_getElem?_getD, List.getElem?_set_self h]
 rfl
theorem low_set_at {B : Nat} (l : List Int) (n : Nat) (x : Int) (h : n < l.length) : low B (l.set n x) (n + 1) = low B l n + B ^ n * x.toNat := by
 simp only [low]
 rw [low_set_ge l n x n (Nat.le_refl _), yep l n x h]
theorem yhm {l : List Int} {i : Nat} (h : l.length ≤ i) : l.getD i 0 = 0 := by
 rw [List.getD_eq_getElem?_getD, List.getElem?_eq_none h]
 rfl
end Go.Proofs.Ytgnaaaliadiekaa.Q
end
section
namespace Go.Proofs.Ytgnaaaliadiekaa.Q
open Go.RowKit Go.Proofs.Ytgnaaaliadiekaa.B Go.Proofs.YtgnaaaliadiekaaW.PrintWords Go.Proofs.YtgnaaaliadiekaaW.PrintLast Go.Proofs.YtgnaaaliadiekaaW.PrintMore
set_option linter.unusedVariables false
set_option linter.unusedSectionVars false
theorem wu (n : Nat) (h : n < 18446744073709551616) : IntKind.u64.wrap (n : Int) = (n : Int) := wu64 (by omega) (by omega)
theorem u64_keeps (n : Int) (h0 : 0 ≤ n) (h1 : n < 2 ^ 64) : IntKind.u64.wrap n = n := wu64 h0 (by omega)
theorem and32 (n : Nat) (h : n < 18446744073709551616) : Go.bits .and .u64 (n : Int) 4294967295 = ((n % 4294967296 : Nat) : Int) := by
 have e := bits_mask .u64 64 (by decide) u64_keeps 32 (by decide) (n : Int) (by omega) (by omega)
 exact e
theorem mulN (a b : Nat) : (a : Int) * (b : Int) = ((a * b : Nat) : Int) := rfl
theorem addN (a b : Nat) : (a : Int) + (b : Int) = ((a + b : Nat) : Int) := rfl
theorem divN (a b : Nat) : (a : Int) / (b : Int) = ((a / b : Nat) : Int) := rfl
theorem yhq (x y : Nat) (hx : x < 18446744073709551616) (hy : y < 18446744073709551616) : bits_Mul64.f (x : Int) (y : Int) = some (((x * y / 18446744073709551616 : Nat) : Int), ((x * y % 18446744073709551616 : Nat) : Int)) := by
 obtain ⟨b1, b2, b3, b4⟩ := Lib.mul64_hi x y hx hy
 have ha := Lib.half_mul_le (a := x / 4294967296) (b := y / 4294967296) (by omega) (by omega)
 have hb := Lib.half_mul_le (a := x / 4294967296) (b := y % 4294967296) (by omega) (by omega)
 have hc := Lib.half_mul_le (a := x % 4294967296) (b := y / 4294967296) (by omega) (by omega)
 unfold bits_Mul64.f
 rw [and32 x hx, and32 y hy, show (x : Int) / 4294967296 = ((x / 4294967296 : Nat) : Int) from divN x 4294967296, show (y : Int) / 4294967296 = ((y / 4294967296 : Nat) : Int) from divN y 4294967296]
 rw [mulN, mulN, mulN, mulN, mulN]
 generalize x / 4294967296 * (y / 4294967296) = A at *
 generalize hB : x / 4294967296 * (y % 4294967296) = B at *
 generalize x % 4294967296 * (y / 4294967296) = C at *
 generalize x % 4294967296 * (y % 4294967296) = D at *
 rw [wu A (by omega), wu B (by omega), wu C (by omega), wu D (by omega), show (D : Int) / 4294967296 = ((D / 4294967296 : Nat) : Int) from divN D 4294967296, addN, wu _ b2, and32 _ b2, show ((B + D / 4294967296 : Nat) : Int) / 4294967296 = (((B + D / 4294967296) / 4294967296 : Nat) : Int) from divN _ 4294967296, addN, addN, wu _ b3,
  show (((B + D / 4294967296) % 4294967296 + C : Nat) : Int) / 4294967296 = ((((B + D / 4294967296) % 4294967296 + C) / 4294967296 : Nat) : Int) from divN _ 4294967296, wu (A + (B + D / 4294967296) / 4294967296) (by omega), addN, b4, wu _ (by rw [Nat.div_lt_iff_lt_mul (by omega)]; exact Nat.mul_lt_mul'' hx hy)]
 congr 1
theorem two_adds {B p o c : Nat} (hB : 0 < B) : ((p % B + o + 0) % B + c + 0) % B = (p + o + c) % B ∧ p / B + (p % B + o + 0) / B + ((p % B + o + 0) % B + c + 0) / B = (p + o + c) / B := by
 rw [Nat.add_zero, Nat.add_zero]
 have h1 := Nat.div_add_mod p B
 have h2 := Nat.div_add_mod (p % B + o) B
 have h3 := Nat.div_add_mod ((p % B + o) % B + c) B
 have h4 := Nat.mod_lt ((p % B + o) % B + c) hB
 generalize p / B = q at *
 generalize p % B = r at *
 generalize (r + o) / B = s at *
 generalize (r + o) % B = t at *
 generalize (t + c) / B = u at *
 generalize (t + c) % B = z at *
 have e : p + o + c = z + B * (q + s + u) := by
  rw [Nat.mul_add, Nat.mul_add]
  omega
 rw [e, Nat.add_mul_mod_self_left, Nat.mod_eq_of_lt h4, Nat.add_mul_div_left _ _ hB, Nat.div_eq_of_lt h4]
 exact ⟨rfl, (Nat.zero_add _).symm⟩
theorem yfd {B : Nat} : ∀ (l : List Int) (n : Nat), Dig B l → val B l < B ^ n → l.getD n 0 = 0
 | [], n, _, _ => by simp
 | x :: l, 0, h, hv => by
  have h1 := h.head
  simp only [val, Nat.pow_zero] at hv
  have : x.toNat = 0 := by omega
  show x = 0
  omega
 | x :: l, n + 1, h, hv => by
  show l.getD n 0 = 0
  refine yfd (B := B) l n h.tail ?_
  simp only [val, Nat.pow_succ] at hv
  rcases Nat.lt_or_ge (val B l) (B ^ n) with h1 | h1
  · exact h1
  · have := Nat.mul_le_mul_left B h1
    rw [Nat.mul_comm B (B ^ n)] at this
    omega
theorem carry_bound {B x y o c : Nat} (hB : 0 < B) (hx : x < B) (hy : y < B) (ho : o < B) (hc : c < B) : (x * y + o + c) / B < B := by
 rw [Nat.div_lt_iff_lt_mul hB]
 have h1 : x * y ≤ (B - 1) * (B - 1) := Nat.mul_le_mul (by omega) (by omega)
 obtain ⟨b, rfl⟩ : ∃ b, B = b + 1 := ⟨B - 1, by omega⟩
 simp only [Nat.add_sub_cancel] at h1
 have h2 : (b + 1) * (b + 1) = b * b + b + b + 1 := by grind
 omega
theorem yea {B : Nat} (l : List Int) (n z o : Nat) (h : n < l.length) (ho : l.getD n 0 = (o : Int)) : val B (l.set n (z : Int)) + B ^ n * o = val B l + B ^ n * z := by
 have e := val_set (B := B) l n (z : Int) h
 rw [ho, Int.toNat_natCast, Int.toNat_natCast] at e
 exact e
theorem mul_step {B P V v out o z c c' x y l : Nat} (h1 : v + P * o = out + P * z) (h2 : B * c' + z = x * y + o + c) (h3 : out + P * c = V + l * x) : v + P * B * c' = V + (l + P * y) * x := by
 have h4 := congrArg (P * ·) h2
 simp only [Nat.mul_add] at h4
 have e1 : P * B * c' = P * (B * c') := Nat.mul_assoc _ _ _
 have e2 : (l + P * y) * x = l * x + P * (x * y) := by grind
 rw [e1, e2]
 omega
theorem getD_set_ne (l : List Int) (n m : Nat) (x : Int) (h : n ≠ m) : (l.set n x).getD m 0 = l.getD m 0 := by
 rw [List.getD_eq_getElem?_getD, List.getD_eq_getElem?_getD, List.getElem?_set_ne h]
theorem mul_idx (i j la lb lo d : Nat) (ha : la < 1099511627776) (hb : lb < 1099511627776) (hi : i < la) (hd : j + (d + 1) = lb) (ho : lo = la + lb) :
 wrap64 ((i : Int) + (j : Int)) = ((i + j : Nat) : Int) ∧ wrap64 ((j : Int) + 1) = ((j + 1 : Nat) : Int) ∧ (0 : Int) ≤ ((i + j : Nat) : Int) ∧ ((i + j : Nat) : Int) < (lo : Int) ∧ (j : Int) < (lb : Int) ∧ (0 : Int) ≤ (j : Int) := by
 refine ⟨w64 (by omega) (by omega), w64 (by omega) (by omega), ?_, ?_, ?_, ?_⟩ <;> omega
section
variable (a b : List Int) (hA : L64 a) (hB : L64 b) (ha : a.length < 1099511627776) (hb : b.length < 1099511627776)
include hA hB ha hb
theorem Mul_inner (i x : Nat) (V : Nat) (hi : i < a.length) (hx : x < 18446744073709551616) (r : List Int)
 (next : ∀ out : List Int, out.length = a.length + b.length → L64 out → vl out = V + 18446744073709551616 ^ i * (x * vl b) → Ev (fun k => yda.l0 k b out a (a.length : Int) ((i + 1 : Nat) : Int)) r) :
 ∀ (d j c : Nat) (out : List Int), j + d = b.length → out.length = a.length + b.length → L64 out → c < 18446744073709551616 → out.getD (i + b.length) 0 = 0 →
 vl out + 18446744073709551616 ^ (i + j) * c = V + 18446744073709551616 ^ i * (x * low 18446744073709551616 b j) →
 Ev (fun k => yda.l1 k b out (i : Int) (x : Int) (c : Int) a (a.length : Int) (i : Int) b (b.length : Int) (j : Int)) r := by
 intro d
 induction d with
 | zero =>
  intro j c out hd ho hO hc hz hv
  have HV := Aside0.mk hv
  clear hv
  have hj : j = b.length := by omega
  subst hj
  refine Ev.step (f := fun k => yda.l0 k b (out.set (i + b.length) (c : Int)) a (a.length : Int) ((i + 1 : Nat) : Int)) (fun k => ?_) (next _ Z29_ (Dig.set hO (by omega) (by omega)) ?_)
  · simp only [yda.l1]
    rw [if_neg (by omega), w64 (x := (i : Int) + (b.length : Int)) (by omega) (by omega), if_pos (by omega), if_pos (by omega), w64 (by omega) (by omega), show ((i : Int) + (b.length : Int)).toNat = i + b.length from by omega]
    rfl
  · have e := yea (B := 18446744073709551616) out (i + b.length) c 0 (by omega) hz
    show val 18446744073709551616 _ = _
    rw [Nat.mul_zero, Nat.add_zero] at e
    have hv := HV.out
    rw [ydv _ b (Nat.le_refl _)] at hv
    rw [e]
    exact hv
 | succ d IH =>
  intro j c out hd ho hO hc hz hv
  have HV := Aside0.mk hv
  clear hv
  obtain ⟨y, hy, hy2⟩ := yct (Nat.succ_pos _) hB j
  obtain ⟨o, hoo, ho2⟩ := yct (Nat.succ_pos _) hO (i + j)
  obtain ⟨f1, f2, f3, f4, f5, f6⟩ := mul_idx i j a.length b.length out.length d ha hb hi hd ho
  have g1 : j < b.length := Nat.lt_of_lt_of_le (Nat.lt_succ_of_le (Nat.le_add_right j d)) (Nat.le_of_eq hd)
  have g2 : i + j < out.length := Int.ofNat_lt.1 f4
  have hB0 : 0 < 18446744073709551616 := Nat.succ_pos _
  have hcb := carry_bound (B := 18446744073709551616) hB0 hx hy2 ho2 hc
  have em := Nat.div_add_mod (x * y + o + c) 18446744073709551616
  have hp : x * y / 18446744073709551616 < 18446744073709551616 := by rw [Nat.div_lt_iff_lt_mul hB0]; exact Nat.mul_lt_mul'' hx hy2
  generalize hS : (x * y + o + c) % 18446744073709551616 = z at em
  generalize hT : (x * y + o + c) / 18446744073709551616 = c' at em hcb
  have hzb : z < 18446744073709551616 := by rw [← hS]; exact Nat.mod_lt _ hB0
  refine Ev.step (f := fun k => yda.l1 k b (out.set (i + j) (z : Int)) (i : Int) (x : Int) (c' : Int) a (a.length : Int) (i : Int) b (b.length : Int) ((j + 1 : Nat) : Int)) (fun k => ?_)
   (IH (j + 1) c' _ ((Nat.add_right_comm j 1 d).trans hd) Z29_ (Dig.set hO (Int.natCast_nonneg z) (Int.ofNat_lt.2 hzb)) hcb ?_ ?_)
  · simp only [yda.l1]
    have hM := yhq x y hx hy2
    obtain ⟨m1, m2⟩ := two_adds (B := 18446744073709551616) (p := x * y) (o := o) (c := c) hB0
    rw [hS] at m1
    rw [hT] at m2
    generalize x * y / 18446744073709551616 = h at hM m2
    generalize x * y % 18446744073709551616 = l at hM m1 m2
    clear em hS hT hp
    rw [if_pos f5, if_pos f6, if_pos f5, ycp, hy, hM]
    rw [Option.bind_some]
    dsimp only
    rw [f1, if_pos f3, if_pos f4, ycp, hoo, Int.toNat_natCast]
    have q1 := adds_nat l o 0
    have q2 := addc_nat l o 0
    rw [show ((0 : Nat) : Int) = 0 from rfl] at q1 q2
    rw [q1, q2]
    have q3 := adds_nat ((l + o + 0) % 18446744073709551616) c 0
    have q4 := addc_nat ((l + o + 0) % 18446744073709551616) c 0
    rw [show ((0 : Nat) : Int) = 0 from rfl] at q3 q4
    have hle : h + (l + o + 0) / 18446744073709551616 < 18446744073709551616 := Nat.lt_of_le_of_lt (Nat.le_add_right _ _) (by rw [m2]; exact hcb)
    rw [q3, q4, addN, wu _ hle, addN, f2, m1, m2, wu _ hcb]
  · rw [getD_set_ne _ _ _ _ (fun e => Nat.lt_irrefl _ (Nat.lt_of_lt_of_eq g1 (Nat.add_left_cancel e).symm))]
    exact hz
  · have e := yea (B := 18446744073709551616) out (i + j) z o g2 hoo
    simp only [low]
    rw [hy, Int.toNat_natCast]
    have hv := HV.out
    have e3 : vl out + 18446744073709551616 ^ (i + j) * c = V + (18446744073709551616 ^ i * low 18446744073709551616 b j) * x := by rw [hv]; grind
    have f := mul_step (B := 18446744073709551616) e em e3
    show val 18446744073709551616 _ + _ = _
    rw [show i + (j + 1) = i + j + 1 from rfl, Nat.pow_succ, f, Nat.pow_add]
    grind
theorem Mul_outer : ∀ (d i : Nat) (out : List Int), i + d = a.length → out.length = a.length + b.length → L64 out → vl out = low 18446744073709551616 a i * vl b → Ev (fun k => yda.l0 k b out a (a.length : Int) (i : Int)) (dg (vl a * vl b))
 | 0, i, out, hd, ho, hO, hv => by
  refine Ev.step (f := fun k => (ybr.f k out).bind fun t => some t) (fun k => ?_) ?_
  · simp only [yda.l0]
    rw [if_neg (by omega)]
  · refine Ev.bind (yfw hO (by omega)) (Ev.same (Ev.now _) ?_)
    rw [hv, ydv _ a (by omega)]
    rfl
 | d + 1, i, out, hd, ho, hO, hv => by
  obtain ⟨x, hx, hx2⟩ := yct (by omega) hA i
  refine Ev.step (f := fun k => yda.l1 k b out (i : Int) (x : Int) ((0 : Nat) : Int) a (a.length : Int) (i : Int) b (b.length : Int) ((0 : Nat) : Int)) (fun k => ?_) ?_
  · simp only [yda.l0]
    rw [if_pos (by omega), if_pos (by omega), if_pos (by omega), ycp, hx]
    rfl
  · have hlt : vl out < 18446744073709551616 ^ (i + b.length) := by
     rw [hv, Nat.pow_add]
     exact Nat.mul_lt_mul'' (yfp (by omega) hA i) (yim hB)
    refine Mul_inner a b hA hB ha hb i x (vl out) (by omega) hx2 _ (fun out2 ho2 hO2 hv2 => Mul_outer d (i + 1) out2 (by omega) ho2 hO2 ?_) b.length 0 0 out (by omega) ho hO (by omega) (yfd out _ hO hlt) ?_
    · rw [hv2, hv]
      simp only [low]
      rw [hx, Int.toNat_natCast]
      grind
    · simp [low]
end
theorem Mul_ev {a b : List Int} (hA : L64 a) (hB : L64 b) (ha : a.length < 1099511627776) (hb : b.length < 1099511627776) : Ev (fun k => yda.f k a b) (dg (vl a * vl b)) := by
 unfold yda.f
 rw [w64 (by omega) (by omega)]
 refine Ev.congr (fun k => (if_pos (by omega)).trans (if_pos (by omega))) ?_
 refine Mul_outer a b hA hB ha hb a.length 0 _ (by omega) ?_ (Dig.zeros _ _ (by omega)) ?_
 · rw [List.length_replicate]
   omega
 · simp only [low, Nat.zero_mul]
   exact ygn _ _
end Go.Proofs.Ytgnaaaliadiekaa.Q
end
