/- A part of the proof (merged by pack.py, a program of this session: what the row's proof names). -/
import Derived.Test.YtgnaaaliadiekaaM4
import Derived.Test.YtgnaaaliadiekaaM16
import Derived.Test.YtgnaaaliadiekaaM27
import Derived.Test.YtgnaaaliadiekaaM28
import Derived.Test.YtgnaaaliadiekaaM0
import Derived.Laws.BitsLemmas
section
namespace Go.Proofs.Ytgnaaaliadiekaa.Q
open Go.RowKit Go.Proofs.Ytgnaaaliadiekaa.B Go.Proofs.YtgnaaaliadiekaaW.PrintWords Go.Proofs.YtgnaaaliadiekaaW.PrintLast Go.Proofs.YtgnaaaliadiekaaW.PrintMore
set_option linter.unusedVariables false
theorem wm (n : Nat) : IntKind.u64.wrap (n : Int) = ((n % 18446744073709551616 : Nat) : Int) := rfl
theorem wi (n : Int) : IntKind.u64.wrap n = n % 18446744073709551616 := rfl
theorem wk (n : Nat) (h : n < 18446744073709551616) : IntKind.u64.wrap (n : Int) = (n : Int) := wu64 (by omega) (by omega)
theorem ukeeps (n : Int) (h0 : 0 ≤ n) (h1 : n < 2 ^ 64) : IntKind.u64.wrap n = n := wu64 h0 (by omega)
theorem orj (a b i : Nat) (ha : a < 18446744073709551616) (hb : b < 18446744073709551616) (hm : a % 2 ^ i = 0) (hl : b < 2 ^ i) : Go.bits .or .u64 (a : Int) (b : Int) = ((a + b : Nat) : Int) :=
 bits_join .u64 64 (by decide) ukeeps i (a : Int) (b : Int) (by omega) (by exact_mod_cast hm) (by omega) (by omega) (by exact_mod_cast hl) (by omega)
theorem andm (n i : Nat) (h : n < 18446744073709551616) (hi : i ≤ 64) : Go.bits .and .u64 (n : Int) (2 ^ i - 1) = ((n % 2 ^ i : Nat) : Int) := by
 have e := bits_mask .u64 64 (by decide) ukeeps i hi (n : Int) (by omega) (by omega)
 rw [e]
 exact_mod_cast rfl
theorem cast_pow (s : Nat) : ((2 : Int) ^ s) = ((2 ^ s : Nat) : Int) := by simp
theorem yht (x s : Nat) (hs : s ≤ 64) : shl .u64 (x : Int) (s : Int) = ((x * 2 ^ s % 18446744073709551616 : Nat) : Int) := by
 unfold shl
 rw [Int.toNat_natCast, show min s IntKind.u64.bits = s from Nat.min_eq_left hs, cast_pow]
 exact wm (x * 2 ^ s)
theorem yhs (x s : Nat) (hs : s ≤ 64) : shr .u64 (x : Int) (s : Int) = ((x / 2 ^ s : Nat) : Int) := by
 unfold shr
 rw [Int.toNat_natCast, show min s IntKind.u64.bits = s from Nat.min_eq_left hs, cast_pow]
 rfl
theorem half_key {b y1 y0 U d q t : Nat} (h : q * y1 + t = U) : U * b + d + q * y0 = q * (y1 * b + y0) + (t * b + d) := by
 subst h
 grind
theorem half_big {b y1 y0 U d q t : Nat} (h : q * y1 + t = U) (hU : U < y1 * b + y0) (hd : d < b) (hbad : b ≤ q ∨ b * t + d < q * y0) : (U * b + d) / (y1 * b + y0) < q := by
 have hY : 0 < y1 * b + y0 := by omega
 rcases hbad with hb | hb
 · refine Nat.lt_of_lt_of_le ?_ hb
   rw [Nat.div_lt_iff_lt_mul hY]
   have := Nat.mul_le_mul_right b hU
   rw [Nat.succ_mul, Nat.mul_comm (y1 * b + y0) b] at this
   omega
 · rw [Nat.div_lt_iff_lt_mul hY]
   have := half_key (b := b) (y0 := y0) (d := d) h
   rw [Nat.mul_comm t b] at this
   omega
theorem half_fit {b y1 y0 U d q t : Nat} (h : q * y1 + t = U) (hU : U < y1 * b + y0) (hg : q * y0 ≤ b * t + d) : q ≤ (U * b + d) / (y1 * b + y0) := by
 have hY : 0 < y1 * b + y0 := by omega
 rw [Nat.le_div_iff_mul_le hY]
 have := half_key (b := b) (y0 := y0) (d := d) h
 rw [Nat.mul_comm t b] at this
 omega
theorem half_out {b y1 y0 U d q t : Nat} (h : q * y1 + t = U) (hy0 : y0 < b) (hU : U < y1 * b + y0) (ht : b ≤ t) : q ≤ (U * b + d) / (y1 * b + y0) := by
 refine half_fit h hU ?_
 rcases Nat.lt_or_ge q b with hq | hq
 · have h1 : q * y0 ≤ b * b := Nat.mul_le_mul (by omega) (by omega)
   have h2 : b * b ≤ b * t := Nat.mul_le_mul_left _ ht
   omega
 · have h1 : b * y1 ≤ q * y1 := Nat.mul_le_mul_right _ hq
   rw [Nat.mul_comm] at h1
   omega
theorem half_first {b y1 y0 U d : Nat} (hy : 0 < y1) (hd : d < b) : (U * b + d) / (y1 * b + y0) ≤ U / y1 := by
 rw [Nat.le_div_iff_mul_le hy]
 have h1 := Nat.div_mul_le_self (U * b + d) (y1 * b + y0)
 generalize (U * b + d) / (y1 * b + y0) = Q at *
 have h2 : Q * (y1 * b + y0) = Q * y1 * b + Q * y0 := by grind
 rw [h2] at h1
 rcases Nat.lt_or_ge U (Q * y1) with h3 | h3
 · have := Nat.mul_le_mul_right b h3
   rw [Nat.succ_mul] at this
   omega
 · exact h3
theorem yhf {x y : Nat} (hx : x < 4294967296) (hy : y < 4294967296) : x * y < 18446744073709551616 := by
 have : x * y ≤ 4294967295 * 4294967295 := Nat.mul_le_mul (by omega) (by omega)
 omega
theorem d64_l0 (Y s y1 y0 U d e : Nat) (hY : Y = y1 * 4294967296 + y0) (hp : 0 < y1) (hy1 : y1 < 4294967296) (hy0 : y0 < 4294967296) (hU : U < Y) (hd : d < 4294967296) (r : Int × Int)
 (next : Ev (fun k => yay.j2 k (Y : Int) (s : Int) (y1 : Int) (y0 : Int) (U : Int) (d : Int) (e : Int) (((U * 4294967296 + d) / Y : Nat) : Int)) r) :
 ∀ (n q t : Nat), q = (U * 4294967296 + d) / Y + n → q * y1 + t = U → t < 4294967296 →
 Ev (fun k => yay.l0 k (Y : Int) (s : Int) (y1 : Int) (y0 : Int) (U : Int) (d : Int) (e : Int) (q : Int) (t : Int)) r := by
 subst hY
 intro n
 induction n with
 | zero =>
  intro q t hq h ht
  have hgood : ¬ (4294967296 ≤ q ∨ 4294967296 * t + d < q * y0) := by
   intro hbad
   have := half_big h hU hd hbad
   omega
  have hq1 : q < 4294967296 := by omega
  have hm := yhf hq1 hy0
  refine Ev.step (f := fun k => yay.j1 k ((y1 * 4294967296 + y0 : Nat) : Int) (s : Int) (y1 : Int) (y0 : Int) (U : Int) (d : Int) (e : Int) (q : Int) (t : Int) false) (fun k => ?_) (Ev.step (fun k => ?_) next)
  · simp only [yay.l0]
    rw [if_neg (by omega)]
    have e1 : IntKind.u64.wrap ((q : Int) * (y0 : Int)) = ((q * y0 : Nat) : Int) := wk (q * y0) hm
    have e2 : IntKind.u64.wrap (4294967296 * (t : Int)) = ((4294967296 * t : Nat) : Int) := wk (4294967296 * t) (by omega)
    have e3 : IntKind.u64.wrap (((4294967296 * t : Nat) : Int) + (d : Int)) = ((4294967296 * t + d : Nat) : Int) := wk (4294967296 * t + d) (by omega)
    rw [e1, e2, e3]
    generalize q * y0 = z at *
    rw [decide_eq_false (by omega)]
  · simp only [yay.j1]
    rw [if_neg (by simp), hq, Nat.add_zero]
 | succ n IH =>
  intro q t hq h ht
  have hbad : 4294967296 ≤ q ∨ 4294967296 * t + d < q * y0 := by
   rcases Nat.lt_or_ge q 4294967296 with h1 | h1
   · rcases Nat.lt_or_ge (4294967296 * t + d) (q * y0) with h2 | h2
     · exact .inr h2
     · have := half_fit h hU h2
       omega
   · exact .inl h1
  have hUq : q ≤ U := by
   have := Nat.mul_le_mul_left q hp
   omega
  have hU64 : U < 18446744073709551616 := by omega
  have hpos := Nat.lt_of_le_of_lt (Nat.zero_le _) (half_big h hU hd hbad)
  obtain ⟨p, rfl⟩ : ∃ p, q = p + 1 := ⟨q - 1, by omega⟩
  have h' : p * y1 + (t + y1) = U := by rw [Nat.add_mul, Nat.one_mul] at h; omega
  have e0 : IntKind.u64.wrap (((p + 1 : Nat) : Int) - 1) = (p : Int) := by rw [show ((p + 1 : Nat) : Int) - 1 = (p : Int) from by omega]; exact wk p (by omega)
  have e9 : IntKind.u64.wrap ((t : Int) + (y1 : Int)) = ((t + y1 : Nat) : Int) := wk (t + y1) (by omega)
  refine Ev.step (f := fun k => yay.j1 k ((y1 * 4294967296 + y0 : Nat) : Int) (s : Int) (y1 : Int) (y0 : Int) (U : Int) (d : Int) (e : Int) ((p + 1 : Nat) : Int) (t : Int) true) (fun k => ?_) ?_
  · simp only [yay.l0]
    by_cases h1 : 4294967296 ≤ p + 1
    · rw [if_pos (by omega)]
    · rw [if_neg (by omega)]
      have h2 : 4294967296 * t + d < (p + 1) * y0 := by omega
      have hm := yhf (x := p + 1) (y := y0) (by omega) hy0
      have e1 : IntKind.u64.wrap (((p + 1 : Nat) : Int) * (y0 : Int)) = (((p + 1) * y0 : Nat) : Int) := wk ((p + 1) * y0) hm
      have e2 : IntKind.u64.wrap (4294967296 * (t : Int)) = ((4294967296 * t : Nat) : Int) := wk (4294967296 * t) (by omega)
      have e3 : IntKind.u64.wrap (((4294967296 * t : Nat) : Int) + (d : Int)) = ((4294967296 * t + d : Nat) : Int) := wk (4294967296 * t + d) (by omega)
      rw [e1, e2, e3]
      generalize (p + 1) * y0 = z at *
      rw [decide_eq_true (by omega)]
  · by_cases ho : 4294967296 ≤ t + y1
    · have hle := half_out (d := d) h' hy0 hU ho
      have hp2 : p = (U * 4294967296 + d) / (y1 * 4294967296 + y0) := by omega
      refine Ev.step (fun k => ?_) next
      simp only [yay.j1]
      rw [if_pos trivial, e9, if_pos (by omega), e0, hp2]
    · refine Ev.step (fun k => ?_) (IH p (t + y1) (by omega) h' (by omega))
      simp only [yay.j1]
      rw [if_pos trivial, e9, if_neg (by omega), e0]
theorem left_round (U d Q Y : Nat) (hY : Y < 18446744073709551616) (h : Q * Y ≤ U * 4294967296 + d) (hr : U * 4294967296 + d - Q * Y < Y) : IntKind.u64.wrap (IntKind.u64.wrap (IntKind.u64.wrap ((U : Int) * 4294967296) + (d : Int)) - IntKind.u64.wrap ((Q : Int) * (Y : Int))) = ((U * 4294967296 + d - Q * Y : Nat) : Int) := by
 have e1 : ((Q : Int) * (Y : Int)) = ((Q * Y : Nat) : Int) := rfl
 rw [e1]
 generalize Q * Y = Z at *
 simp only [wi]
 omega
theorem d64_l1 (Y s y1 y0 U d q1 : Nat) (hs : s ≤ 64) (hY : Y = y1 * 4294967296 + y0) (hp : 0 < y1) (hy1 : y1 < 4294967296) (hy0 : y0 < 4294967296) (hU : U < Y) (hd : d < 4294967296) (hq1 : q1 < 4294967296) :
 ∀ (n q t : Nat), q = (U * 4294967296 + d) / Y + n → q * y1 + t = U → t < 4294967296 →
 Ev (fun k => yay.l1 k (Y : Int) (s : Int) (y1 : Int) (y0 : Int) (d : Int) (q1 : Int) (t : Int) (U : Int) (q : Int)) (((q1 * 4294967296 + (U * 4294967296 + d) / Y : Nat) : Int), (((U * 4294967296 + d) % Y / 2 ^ s : Nat) : Int)) := by
 subst hY
 have hY0 : 0 < y1 * 4294967296 + y0 := by omega
 have hQb : (U * 4294967296 + d) / (y1 * 4294967296 + y0) < 4294967296 := by
  rw [Nat.div_lt_iff_lt_mul hY0]
  omega
 have hdm := Nat.div_add_mod (U * 4294967296 + d) (y1 * 4294967296 + y0)
 have hml := Nat.mod_lt (U * 4294967296 + d) hY0
 rw [Nat.mul_comm] at hdm
 have fin : IntKind.u64.wrap (IntKind.u64.wrap (IntKind.u64.wrap ((U : Int) * 4294967296) + (d : Int)) - IntKind.u64.wrap ((((U * 4294967296 + d) / (y1 * 4294967296 + y0) : Nat) : Int) * ((y1 * 4294967296 + y0 : Nat) : Int))) = (((U * 4294967296 + d) % (y1 * 4294967296 + y0) : Nat) : Int) := by
  rw [left_round U d _ _ (by omega) (by omega) (by omega)]
  congr 1
  omega
 have top : IntKind.u64.wrap (IntKind.u64.wrap ((q1 : Int) * 4294967296) + (((U * 4294967296 + d) / (y1 * 4294967296 + y0) : Nat) : Int)) = ((q1 * 4294967296 + (U * 4294967296 + d) / (y1 * 4294967296 + y0) : Nat) : Int) := by
  generalize (U * 4294967296 + d) / (y1 * 4294967296 + y0) = Q at *
  simp only [wi]
  omega
 intro n
 induction n with
 | zero =>
  intro q t hq h ht
  have hgood : ¬ (4294967296 ≤ q ∨ 4294967296 * t + d < q * y0) := by
   intro hbad
   have := half_big h hU hd hbad
   omega
  have hq1 : q < 4294967296 := by omega
  have hm := yhf hq1 hy0
  refine Ev.step (f := fun k => yay.j4 k ((y1 * 4294967296 + y0 : Nat) : Int) (s : Int) (y1 : Int) (y0 : Int) (d : Int) (q1 : Int) (t : Int) (U : Int) (q : Int) false) (fun k => ?_) (Ev.step (f := fun _ => some _) (fun k => ?_) (Ev.now _))
  · simp only [yay.l1]
    rw [if_neg (by omega)]
    have e1 : IntKind.u64.wrap ((q : Int) * (y0 : Int)) = ((q * y0 : Nat) : Int) := wk (q * y0) hm
    have e2 : IntKind.u64.wrap (4294967296 * (t : Int)) = ((4294967296 * t : Nat) : Int) := wk (4294967296 * t) (by omega)
    have e3 : IntKind.u64.wrap (((4294967296 * t : Nat) : Int) + (d : Int)) = ((4294967296 * t + d : Nat) : Int) := wk (4294967296 * t + d) (by omega)
    rw [e1, e2, e3]
    generalize q * y0 = z at *
    rw [decide_eq_false (by omega)]
  · simp only [yay.j4]
    rw [if_neg (by simp), if_pos (by omega), hq, Nat.add_zero, fin, top, yhs _ _ hs]
 | succ n IH =>
  intro q t hq h ht
  have hbad : 4294967296 ≤ q ∨ 4294967296 * t + d < q * y0 := by
   rcases Nat.lt_or_ge q 4294967296 with h1 | h1
   · rcases Nat.lt_or_ge (4294967296 * t + d) (q * y0) with h2 | h2
     · exact .inr h2
     · have := half_fit h hU h2
       omega
   · exact .inl h1
  have hUq : q ≤ U := by
   have := Nat.mul_le_mul_left q hp
   omega
  have hU64 : U < 18446744073709551616 := by omega
  have hpos := Nat.lt_of_le_of_lt (Nat.zero_le _) (half_big h hU hd hbad)
  obtain ⟨p, rfl⟩ : ∃ p, q = p + 1 := ⟨q - 1, by omega⟩
  have h' : p * y1 + (t + y1) = U := by rw [Nat.add_mul, Nat.one_mul] at h; omega
  have e0 : IntKind.u64.wrap (((p + 1 : Nat) : Int) - 1) = (p : Int) := by rw [show ((p + 1 : Nat) : Int) - 1 = (p : Int) from by omega]; exact wk p (by omega)
  have e9 : IntKind.u64.wrap ((t : Int) + (y1 : Int)) = ((t + y1 : Nat) : Int) := wk (t + y1) (by omega)
  refine Ev.step (f := fun k => yay.j4 k ((y1 * 4294967296 + y0 : Nat) : Int) (s : Int) (y1 : Int) (y0 : Int) (d : Int) (q1 : Int) (t : Int) (U : Int) ((p + 1 : Nat) : Int) true) (fun k => ?_) ?_
  · simp only [yay.l1]
    by_cases h1 : 4294967296 ≤ p + 1
    · rw [if_pos (by omega)]
    · rw [if_neg (by omega)]
      have h2 : 4294967296 * t + d < (p + 1) * y0 := by omega
      have hm := yhf (x := p + 1) (y := y0) (by omega) hy0
      have e1 : IntKind.u64.wrap (((p + 1 : Nat) : Int) * (y0 : Int)) = (((p + 1) * y0 : Nat) : Int) := wk ((p + 1) * y0) hm
      have e2 : IntKind.u64.wrap (4294967296 * (t : Int)) = ((4294967296 * t : Nat) : Int) := wk (4294967296 * t) (by omega)
      have e3 : IntKind.u64.wrap (((4294967296 * t : Nat) : Int) + (d : Int)) = ((4294967296 * t + d : Nat) : Int) := wk (4294967296 * t + d) (by omega)
      rw [e1, e2, e3]
      generalize (p + 1) * y0 = z at *
      rw [decide_eq_true (by omega)]
  · by_cases ho : 4294967296 ≤ t + y1
    · have hle := half_out (d := d) h' hy0 hU ho
      have hp2 : p = (U * 4294967296 + d) / (y1 * 4294967296 + y0) := by omega
      refine Ev.step (f := fun _ => some _) (fun k => ?_) (Ev.now _)
      simp only [yay.j4]
      rw [if_pos trivial, e9, if_pos (by omega), if_pos (by omega), e0, hp2, fin, top, yhs _ _ hs]
    · refine Ev.step (fun k => ?_) (IH p (t + y1) (by omega) h' (by omega))
      simp only [yay.j4]
      rw [if_pos trivial, e9, if_neg (by omega), e0]
theorem norm_shift (y : Nat) (h0 : 0 < y) (h1 : y < 18446744073709551616) : bl y ≤ 64 ∧ 1 ≤ bl y ∧ y * 2 ^ (64 - bl y) < 18446744073709551616 ∧ 9223372036854775808 ≤ y * 2 ^ (64 - bl y) := by
 have hb := bl_le 64 y (by omega)
 have hb1 : 1 ≤ bl y := by rw [bl_pos (by omega)]; omega
 refine ⟨hb, hb1, ?_, ?_⟩
 · have := Nat.mul_lt_mul_of_pos_right (lt_bl y) (Nat.two_pow_pos (64 - bl y))
   rw [← Nat.pow_add, Nat.add_sub_cancel' hb] at this
   exact this
 · have h2 : ¬ y < 2 ^ (bl y - 1) := fun h => by
    have := yge.2 h
    omega
   have := Nat.mul_le_mul_right (2 ^ (64 - bl y)) (Nat.le_of_not_lt h2)
   rw [← Nat.pow_add, show bl y - 1 + (64 - bl y) = 63 from by omega] at this
   exact this
theorem join_shift (hi lo y s : Nat) (hs : s ≤ 64) (hlo : lo < 18446744073709551616) (hhi : hi < y) (hy : y * 2 ^ s < 18446744073709551616) :
 hi * 2 ^ s % 18446744073709551616 = hi * 2 ^ s ∧ lo / 2 ^ (64 - s) < 2 ^ s ∧ hi * 2 ^ s + lo / 2 ^ (64 - s) < y * 2 ^ s ∧ (hi * 2 ^ s + lo / 2 ^ (64 - s)) * 18446744073709551616 + lo * 2 ^ s % 18446744073709551616 = (hi * 18446744073709551616 + lo) * 2 ^ s := by
 have hP : 0 < 2 ^ s := Nat.two_pow_pos s
 have h1 : (hi + 1) * 2 ^ s ≤ y * 2 ^ s := Nat.mul_le_mul_right _ hhi
 rw [Nat.add_mul, Nat.one_mul] at h1
 have e64 : 2 ^ s * 2 ^ (64 - s) = 18446744073709551616 := by rw [← Nat.pow_add, Nat.add_sub_cancel' hs]
 have h2 : lo / 2 ^ (64 - s) < 2 ^ s := by
  rw [Nat.div_lt_iff_lt_mul (Nat.two_pow_pos _), e64]
  exact hlo
 have h3 : lo * 2 ^ s / 18446744073709551616 = lo / 2 ^ (64 - s) := by
  rw [← e64, Nat.mul_comm lo, Nat.mul_div_mul_left _ _ hP]
 have h4 := Nat.div_add_mod (lo * 2 ^ s) 18446744073709551616
 rw [h3] at h4
 refine ⟨Nat.mod_eq_of_lt (by omega), h2, by omega, ?_⟩
 have h5 : (hi * 18446744073709551616 + lo) * 2 ^ s = hi * 2 ^ s * 18446744073709551616 + lo * 2 ^ s := by grind
 rw [h5]
 omega
theorem two_digits {NN U1 Q1 R1 Q0 R0 Y l0 b : Nat} (h : NN = U1 * b + l0) (h1 : Y * Q1 + R1 = U1) (h2 : Y * Q0 + R0 = R1 * b + l0) : NN = (Q1 * b + Q0) * Y + R0 := by
 subst h h1
 grind
theorem big_join (U l1 l0 : Nat) : U * 18446744073709551616 + (l1 * 4294967296 + l0) = (U * 4294967296 + l1) * 4294967296 + l0 := by omega
theorem d64_first (U y1 : Nat) (hp : 0 < y1) (hU : U < 18446744073709551616) : IntKind.u64.wrap (Int.tdiv (U : Int) (y1 : Int)) = ((U / y1 : Nat) : Int) ∧ IntKind.u64.wrap ((U : Int) - IntKind.u64.wrap (((U / y1 : Nat) : Int) * (y1 : Int))) = ((U % y1 : Nat) : Int) ∧ U / y1 * y1 + U % y1 = U ∧ U % y1 < y1 := by
 have hUd := Nat.div_add_mod' U y1
 have hUm := Nat.mod_lt U hp
 have hle : U / y1 ≤ U := Nat.div_le_self _ _
 refine ⟨?_, ?_, hUd, hUm⟩
 · rw [show Int.tdiv (U : Int) (y1 : Int) = ((U / y1 : Nat) : Int) from rfl]
   exact wk _ (by omega)
 · have hmul : IntKind.u64.wrap (((U / y1 : Nat) : Int) * (y1 : Int)) = ((U / y1 * y1 : Nat) : Int) := wk (U / y1 * y1) (by omega)
   rw [hmul, show (U : Int) - ((U / y1 * y1 : Nat) : Int) = ((U % y1 : Nat) : Int) from by omega]
   exact wk _ (by omega)
theorem d64_two (Y s y1 y0 U l1 l0 : Nat) (hs : s ≤ 64) (hY : Y = y1 * 4294967296 + y0) (hY64 : Y < 18446744073709551616) (hp : 0 < y1) (hy1 : y1 < 4294967296) (hy0 : y0 < 4294967296) (hU : U < Y) (hl1 : l1 < 4294967296) (hl0 : l0 < 4294967296) :
 Ev (fun k => yay.l0 k (Y : Int) (s : Int) (y1 : Int) (y0 : Int) (U : Int) (l1 : Int) (l0 : Int) (IntKind.u64.wrap (Int.tdiv (U : Int) (y1 : Int))) (IntKind.u64.wrap ((U : Int) - IntKind.u64.wrap (IntKind.u64.wrap (Int.tdiv (U : Int) (y1 : Int)) * (y1 : Int)))))
  ((((U * 4294967296 + l1) / Y * 4294967296 + ((U * 4294967296 + l1) % Y * 4294967296 + l0) / Y : Nat) : Int), ((((U * 4294967296 + l1) % Y * 4294967296 + l0) % Y / 2 ^ s : Nat) : Int)) := by
 obtain ⟨u1, u2, u3, u4⟩ := d64_first U y1 hp (by omega)
 rw [u1, u2]
 have hf1 := half_first (b := 4294967296) (y0 := y0) (U := U) (d := l1) hp hl1
 rw [← hY] at hf1
 obtain ⟨n1, hn1⟩ : ∃ n, U / y1 = (U * 4294967296 + l1) / Y + n := ⟨_, (Nat.add_sub_cancel' hf1).symm⟩
 refine d64_l0 Y s y1 y0 U l1 l0 hY hp hy1 hy0 hU hl1 _ ?_ n1 (U / y1) (U % y1) hn1 u3 (by omega)
 have hYp : 0 < Y := by omega
 have hQ1 : (U * 4294967296 + l1) / Y < 4294967296 := by
  rw [Nat.div_lt_iff_lt_mul hYp]
  omega
 have hR1 := Nat.mod_lt (U * 4294967296 + l1) hYp
 have hD1 := Nat.div_add_mod' (U * 4294967296 + l1) Y
 have hle : (U * 4294967296 + l1) / Y * Y ≤ U * 4294967296 + l1 := Nat.div_mul_le_self _ _
 have hr := left_round U l1 ((U * 4294967296 + l1) / Y) Y hY64 hle (by omega)
 have hre : U * 4294967296 + l1 - (U * 4294967296 + l1) / Y * Y = (U * 4294967296 + l1) % Y := by omega
 rw [hre] at hr
 obtain ⟨Q1, hQe⟩ : ∃ Q, (U * 4294967296 + l1) / Y = Q := ⟨_, rfl⟩
 obtain ⟨R1, hRe⟩ : ∃ R, (U * 4294967296 + l1) % Y = R := ⟨_, rfl⟩
 rw [hQe] at hQ1 hr
 rw [hRe] at hR1 hr
 rw [hQe, hRe]
 obtain ⟨v1, v2, v3, v4⟩ := d64_first R1 y1 hp (by omega)
 have hf2 := half_first (b := 4294967296) (y0 := y0) (U := R1) (d := l0) hp hl0
 rw [← hY] at hf2
 obtain ⟨n2, hn2⟩ : ∃ n, R1 / y1 = (R1 * 4294967296 + l0) / Y + n := ⟨_, (Nat.add_sub_cancel' hf2).symm⟩
 have hall := d64_l1 Y s y1 y0 R1 l0 Q1 hs hY hp hy1 hy0 hR1 hl0 hQ1 n2 (R1 / y1) (R1 % y1) hn2 v3 (by omega)
 refine Ev.step (fun k => ?_) hall
 simp only [yay.j2]
 rw [if_neg (by omega), hr, v1, v2]
theorem Div64_ev (hi lo y : Nat) (hlo : lo < 18446744073709551616) (hy : y < 18446744073709551616) (h : hi < y) : Ev (fun k => yay.f k (hi : Int) (lo : Int) (y : Int)) ((((hi * 18446744073709551616 + lo) / y : Nat) : Int), (((hi * 18446744073709551616 + lo) % y : Nat) : Int)) := by
 unfold yay.f
 refine Ev.congr (fun k => (if_neg (by omega)).trans (if_neg (by omega))) ?_
 by_cases h0 : hi = 0
 · subst h0
   refine Ev.congr (fun k => if_pos rfl) ?_
   rw [Nat.zero_mul, Nat.zero_add, show Int.tmod (lo : Int) (y : Int) = ((lo % y : Nat) : Int) from rfl, show Int.tdiv (lo : Int) (y : Int) = ((lo / y : Nat) : Int) from rfl]
   have : lo / y ≤ lo := Nat.div_le_self _ _
   rw [wk _ (by omega)]
   exact Ev.now _
 · refine Ev.congr (fun k => if_neg (by omega)) ?_
   obtain ⟨b1, b2, b3, b4⟩ := norm_shift y (by omega) hy
   obtain ⟨s, hs⟩ : ∃ s, 64 - bl y = s := ⟨_, rfl⟩
   have hs64 : s ≤ 63 := by omega
   rw [hs] at b3 b4
   have eL : bits_LeadingZeros64.f (y : Int) = some (s : Int) := by
    unfold bits_LeadingZeros64.f
    rw [Len64_ev (by omega) (by omega), Int.toNat_natCast]
    show some (wrap64 (64 - (bl y : Int))) = _
    rw [w64 (by omega) (by omega)]
    congr 1
    omega
   rw [eL]
   refine Ev.congr (fun k => Option.bind_some _ _) ?_
   obtain ⟨c1, c2, c3, c4⟩ := join_shift hi lo y s (by omega) hlo h b3
   have e1 : IntKind.u64.wrap (s : Int) = (s : Int) := wk s (by omega)
   have e2 : IntKind.u64.wrap (64 - (s : Int)) = ((64 - s : Nat) : Int) := by rw [show (64 : Int) - (s : Int) = ((64 - s : Nat) : Int) from by omega]; exact wk _ (by omega)
   rw [e1, e2, yht y s (by omega), yht hi s (by omega), yht lo s (by omega), yhs lo (64 - s) (by omega), c1, Nat.mod_eq_of_lt b3]
   have hor : Go.bits .or .u64 ((hi * 2 ^ s : Nat) : Int) ((lo / 2 ^ (64 - s) : Nat) : Int) = ((hi * 2 ^ s + lo / 2 ^ (64 - s) : Nat) : Int) := by
    refine orj _ _ s ?_ ?_ (Nat.mul_mod_left _ _) c2
    · omega
    · omega
   rw [hor]
   have hYd : y * 2 ^ s = y * 2 ^ s / 4294967296 * 4294967296 + y * 2 ^ s % 4294967296 := by omega
   have hml : lo * 2 ^ s % 18446744073709551616 < 18446744073709551616 := Nat.mod_lt _ (by omega)
   have hfin : ∀ q r : Nat, (hi * 18446744073709551616 + lo) * 2 ^ s = q * (y * 2 ^ s) + r → r < y * 2 ^ s → (hi * 18446744073709551616 + lo) / y = q ∧ (hi * 18446744073709551616 + lo) % y = r / 2 ^ s := by
    intro q r e hr
    have hP : 0 < 2 ^ s := Nat.two_pow_pos s
    have hle : q * y ≤ hi * 18446744073709551616 + lo := by
     refine Nat.le_of_mul_le_mul_right ?_ hP
     rw [Nat.mul_assoc]
     omega
    obtain ⟨t, ht⟩ : ∃ t, hi * 18446744073709551616 + lo = q * y + t := ⟨_, (Nat.add_sub_cancel' hle).symm⟩
    rw [ht] at e ⊢
    have e2 : r = t * 2 ^ s := by
     rw [Nat.add_mul, Nat.mul_assoc] at e
     omega
    have ht2 : t < y := by
     rw [e2] at hr
     exact Nat.lt_of_mul_lt_mul_right hr
    have hy0 : 0 < y := by omega
    constructor
    · rw [Nat.add_comm, Nat.add_mul_div_right _ _ hy0, Nat.div_eq_of_lt ht2, Nat.zero_add]
    · rw [Nat.add_comm, Nat.add_mul_mod_self_right, Nat.mod_eq_of_lt ht2, e2, Nat.mul_div_cancel _ hP]
   generalize hU : hi * 2 ^ s + lo / 2 ^ (64 - s) = U at *
   generalize hL : lo * 2 ^ s % 18446744073709551616 = L at *
   generalize hYY : y * 2 ^ s = Y at *
   have hand1 : Go.bits .and .u64 (Y : Int) 4294967295 = ((Y % 4294967296 : Nat) : Int) := andm Y 32 b3 (by omega)
   have hand2 : Go.bits .and .u64 (L : Int) 4294967295 = ((L % 4294967296 : Nat) : Int) := andm L 32 (by omega) (by omega)
   rw [hand1, hand2, show (Y : Int) / 4294967296 = ((Y / 4294967296 : Nat) : Int) from rfl, show (L : Int) / 4294967296 = ((L / 4294967296 : Nat) : Int) from rfl]
   have hy1 : Y / 4294967296 < 4294967296 := by omega
   have hyp : 0 < Y / 4294967296 := by omega
   have hy0 : Y % 4294967296 < 4294967296 := Nat.mod_lt _ (by omega)
   have hl1 : L / 4294967296 < 4294967296 := by omega
   have hl0 : L % 4294967296 < 4294967296 := Nat.mod_lt _ (by omega)
   have hLd : L = L / 4294967296 * 4294967296 + L % 4294967296 := by omega
   generalize hy1e : Y / 4294967296 = y1 at *
   generalize hy0e : Y % 4294967296 = y0 at *
   generalize hl1e : L / 4294967296 = l1 at *
   generalize hl0e : L % 4294967296 = l0 at *
   refine Ev.congr (fun k => (if_pos (by omega)).trans ((if_pos (by omega)).trans (if_neg (by omega)))) ?_
   have hall := d64_two Y s y1 y0 U l1 l0 (by omega) hYd b3 hyp hy1 hy0 c3 hl1 hl0
   have hYp : 0 < Y := by omega
   have hD1 := Nat.div_add_mod (U * 4294967296 + l1) Y
   have hR2 := Nat.mod_lt ((U * 4294967296 + l1) % Y * 4294967296 + l0) hYp
   have hD2 := Nat.div_add_mod ((U * 4294967296 + l1) % Y * 4294967296 + l0) Y
   obtain ⟨g1, g2⟩ := hfin _ _ (two_digits (NN := (hi * 18446744073709551616 + lo) * 2 ^ s) (by rw [← c4, hLd]; exact big_join U l1 l0) hD1 hD2) hR2
   rw [g1, g2]
   exact hall
end Go.Proofs.Ytgnaaaliadiekaa.Q
end
