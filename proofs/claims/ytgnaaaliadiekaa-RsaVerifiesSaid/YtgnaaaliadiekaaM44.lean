/- A part of the proof (merged by pack.py, a program of this session: what the row's proof names). -/
import Derived.Test.YtgnaaaliadiekaaM4
import Derived.Test.YtgnaaaliadiekaaM11
import Derived.Test.YtgnaaaliadiekaaM16
import Derived.Test.YtgnaaaliadiekaaM30
import Derived.Test.YtgnaaaliadiekaaM40
import Derived.Test.YtgnaaaliadiekaaM43
import Derived.Test.YtgnaaaliadiekaaM0
section
namespace Go.Proofs.Ytgnaaaliadiekaa.Q
open Go.RowKit Go.Proofs.Ytgnaaaliadiekaa.B Go.Proofs.YtgnaaaliadiekaaW.PrintWords Go.Proofs.YtgnaaaliadiekaaW.PrintLast Go.Proofs.YtgnaaaliadiekaaW.PrintMore
set_option linter.unusedVariables false
theorem or_turn (a b : Nat) (ha : a < 18446744073709551616) (hb : b < 18446744073709551616) : Go.bits .or .u64 (a : Int) (b : Int) = Go.bits .or .u64 (b : Int) (a : Int) := by
 rw [(bits_nat .u64 64 (by decide) ukeeps a b (by omega) (by omega)).2, (bits_nat .u64 64 (by decide) ukeeps b a (by omega) (by omega)).2, Nat.or_comm]
theorem digit_lt {B : Nat} : ∀ (l : List Int) (n c : Nat), Dig B l → val B l < B ^ n * c → l.getD n 0 < (c : Int)
 | [], n, c, _, h => by
  have : 0 < c := by
   rcases Nat.eq_zero_or_pos c with h0 | h0
   · subst h0
     rw [Nat.mul_zero] at h
     omega
   · exact h0
  simp
  omega
 | x :: l, 0, c, hd, h => by
  have h1 := hd.head
  simp only [val, Nat.pow_zero, Nat.one_mul] at h
  show x < (c : Int)
  omega
 | x :: l, n + 1, c, hd, h => by
  show l.getD n 0 < (c : Int)
  refine digit_lt (B := B) l n c hd.tail ?_
  simp only [val, Nat.pow_succ] at h
  rcases Nat.lt_or_ge (val B l) (B ^ n * c) with h1 | h1
  · exact h1
  · have := Nat.mul_le_mul_left B h1
    rw [← Nat.mul_assoc, Nat.mul_comm B (B ^ n)] at this
    omega
theorem shl_parts (x s : Nat) (hs : s ≤ 64) : x * 2 ^ s % 18446744073709551616 % 2 ^ s = 0 ∧ x * 2 ^ s / 18446744073709551616 = x / 2 ^ (64 - s) ∧ x * 2 ^ s % 18446744073709551616 + 2 ^ s ≤ 18446744073709551616 ∧ x * 2 ^ s % 18446744073709551616 = x % 2 ^ (64 - s) * 2 ^ s := by
 have e64 : 2 ^ (64 - s) * 2 ^ s = 18446744073709551616 := by rw [← Nat.pow_add, Nat.sub_add_cancel hs]
 have hP : 0 < 2 ^ s := Nat.two_pow_pos s
 have hQ : 0 < 2 ^ (64 - s) := Nat.two_pow_pos _
 have e1 : x * 2 ^ s % 18446744073709551616 = x % 2 ^ (64 - s) * 2 ^ s := by rw [← e64, Nat.mul_mod_mul_right]
 have h1 : x % 2 ^ (64 - s) < 2 ^ (64 - s) := Nat.mod_lt _ hQ
 have h2 : (x % 2 ^ (64 - s) + 1) * 2 ^ s ≤ 2 ^ (64 - s) * 2 ^ s := Nat.mul_le_mul_right _ h1
 rw [Nat.add_mul, Nat.one_mul, e64] at h2
 refine ⟨?_, ?_, ?_, e1⟩
 · rw [e1, Nat.mul_mod_left]
 · rw [← e64, Nat.mul_div_mul_right _ _ hP]
 · rw [e1]
   exact h2
theorem up_idx (i q la lo d : Nat) (hla : la < 1099511627776) (hq : q < 1099511627776) (hd : i + (d + 1) = la) (ho : lo = la + q + 1) :
 wrap64 ((i : Int) + (q : Int)) = ((i + q : Nat) : Int) ∧ wrap64 (((i + q : Nat) : Int) + 1) = ((i + q + 1 : Nat) : Int) ∧ wrap64 ((i : Int) + 1) = ((i + 1 : Nat) : Int) ∧ (i : Int) < (la : Int) ∧ ((i + q : Nat) : Int) < (lo : Int) ∧ ((i + q + 1 : Nat) : Int) < (lo : Int) ∧ i + q < lo ∧ i + q + 1 < lo := by
 refine ⟨w64 (by omega) (by omega), w64 (by omega) (by omega), w64 (by omega) (by omega), ?_, ?_, ?_, ?_, ?_⟩ <;> omega
theorem set_same (l : List Int) (n : Nat) (x : Int) (h : n < l.length) (e : l.getD n 0 = x) : l.set n x = l := by
 have e2 : x = l[n] := by rw [← e, List.getD_eq_getElem?_getD, List.getElem?_eq_getElem h]; rfl
 rw [e2]
 exact List.set_getElem_self h
theorem up_sum {B P V0 V1 V2 u lo hi z : Nat} (h1 : V1 + P * u = V0 + P * (u + lo)) (h2 : V2 = V1 + P * B * hi) (h3 : lo + B * hi = z) : V2 = V0 + P * z := by
 subst h3 h2
 rw [Nat.mul_add] at h1
 rw [Nat.mul_add, Nat.mul_assoc]
 omega
theorem pos_int {s : Nat} (h : 0 < s) : (s : Int) > 0 := by omega
theorem npos_int {s : Nat} (h : s = 0) : ¬ (s : Int) > 0 := by omega
theorem yig (q s : Nat) (hs : s < 64) (hq : q < 1099511627776) : Int.tdiv ((64 * q + s : Nat) : Int) 64 = (q : Int) ∧ Int.tmod ((64 * q + s : Nat) : Int) 64 = (s : Int) ∧ wrap64 (q : Int) = (q : Int) ∧ wrap64 (64 - (s : Int)) = ((64 - s : Nat) : Int) := by
 refine ⟨?_, ?_, w64 (by omega) (by omega), ?_⟩
 · rw [show Int.tdiv ((64 * q + s : Nat) : Int) 64 = (((64 * q + s) / 64 : Nat) : Int) from yed _ 64]
   omega
 · rw [show Int.tmod ((64 * q + s : Nat) : Int) 64 = (((64 * q + s) % 64 : Nat) : Int) from yfe _ 64]
   omega
 · rw [w64 (by omega) (by omega)]
   omega
theorem down_idx (i q n la lo d : Nat) (hla : la < 1099511627776) (hq : q + n = la) (hd : i + (d + 1) = n) (ho : lo = n) :
 (i : Int) < (n : Int) ∧ (i : Int) < (lo : Int) ∧ wrap64 ((i : Int) + 1) = ((i + 1 : Nat) : Int) ∧ wrap64 (wrap64 ((q : Int) + (i : Int)) + 1) = ((q + (i + 1) : Nat) : Int) ∧ (((i + 1 : Nat) : Int) < (lo : Int) → ((q + (i + 1) : Nat) : Int) < (la : Int)) ∧ i < lo ∧ (¬ i + 1 < n → la - q ≤ i + 1) := by
 refine ⟨by omega, by omega, w64 (by omega) (by omega), ?_, by omega, by omega, by omega⟩
 rw [w64 (x := (q : Int) + (i : Int)) (by omega) (by omega), w64 (by omega) (by omega)]
 omega
theorem Shift_up_loop (a : List Int) (hA : L64 a) (ha : a.length < 1099511627776) (q s : Nat) (hs : s < 64) (hq : q < 1099511627776) : ∀ (d i : Nat) (out : List Int), i + d = a.length → out.length = a.length + q + 1 → L64 out → vl out = low 18446744073709551616 a i * 2 ^ (64 * q + s) →
 Ev (fun k => yav.l0 k ((64 * q + s : Nat) : Int) out a (a.length : Int) (i : Int)) (dg (vl a * 2 ^ (64 * q + s))) := by
 intro d
 induction d with
 | zero =>
  intro i out hd ho hO hv
  refine Ev.step (f := fun k => (ybr.f k out).bind fun t => some t) (fun k => ?_) ?_
  · simp only [yav.l0]
    rw [if_neg (by omega)]
  · refine Ev.bind (yfw hO (by omega)) (Ev.same (Ev.now _) ?_)
    rw [hv, ydv _ a (by omega)]
    rfl
 | succ d IH =>
  intro i out hd ho hO hv
  have hs64 : s ≤ 64 := by omega
  have hs65 : 64 - s ≤ 64 := by omega
  have hd1 : i + 1 + d = a.length := by omega
  obtain ⟨x, hx, hx2⟩ := yct (by omega) hA i
  obtain ⟨f1, f2, f3, f4, f5, f6, f7, f8⟩ := up_idx i q a.length out.length d ha hq hd ho
  have e64 : 2 ^ (64 * q + s) = 18446744073709551616 ^ q * 2 ^ s := by rw [Nat.pow_add, pow64]
  have hlow : vl out < 18446744073709551616 ^ (i + q) * 2 ^ s := by
   rw [hv, e64, Nat.pow_add, Nat.mul_assoc]
   exact Nat.mul_lt_mul_of_pos_right (yfp (by omega) hA i) (Nat.mul_pos (Nat.pow_pos (by omega)) (Nat.two_pow_pos s))
  obtain ⟨u, hu, hu2⟩ := yct (by omega) hO (i + q)
  have hus : u < 2 ^ s := by
   have := digit_lt out (i + q) (2 ^ s) hO hlow
   rw [hu] at this
   exact Int.ofNat_lt.1 this
  have hsp : 2 ^ s ≤ 2 ^ 63 := Nat.pow_le_pow_right (by omega) (by omega)
  have hz : out.getD (i + q + 1) 0 = 0 := by
   refine yfd out (i + q + 1) hO (Nat.lt_of_lt_of_le hlow ?_)
   rw [Nat.pow_succ]
   exact Nat.mul_le_mul_left _ (by omega)
  obtain ⟨p1, p2, p3, p4⟩ := shl_parts x s (by omega)
  have p5 := Nat.mod_add_div (x * 2 ^ s) 18446744073709551616
  rw [p2] at p5
  have hhi : x / 2 ^ (64 - s) < 18446744073709551616 := Nat.lt_of_le_of_lt (Nat.div_le_self _ _) hx2
  have hs0 : s = 0 → x / 2 ^ (64 - s) = 0 := by
   intro h
   subst h
   exact Nat.div_eq_of_lt (by omega)
  have eshl : shl .u64 (x : Int) (s : Int) = ((x * 2 ^ s % 18446744073709551616 : Nat) : Int) := yht x s hs64
  have eor : Go.bits .or .u64 (u : Int) ((x * 2 ^ s % 18446744073709551616 : Nat) : Int) = ((u + x * 2 ^ s % 18446744073709551616 : Nat) : Int) := by
   rw [or_turn u _ hu2 (by omega), orj _ u s (by omega) hu2 p1 hus, Nat.add_comm]
  have eshr : shr .u64 (x : Int) ((64 - s : Nat) : Int) = ((x / 2 ^ (64 - s) : Nat) : Int) := yhs x (64 - s) hs65
  have eor2 : Go.bits .or .u64 (0 : Int) ((x / 2 ^ (64 - s) : Nat) : Int) = ((x / 2 ^ (64 - s) : Nat) : Int) := by
   have := orj 0 (x / 2 ^ (64 - s)) 64 (by omega) hhi (Nat.zero_mod _) hhi
   rw [Nat.zero_add] at this
   exact this
  have es := yea (B := 18446744073709551616) out (i + q) (u + x * 2 ^ s % 18446744073709551616) u f7 hu
  have hO1 : L64 (out.set (i + q) ((u + x * 2 ^ s % 18446744073709551616 : Nat) : Int)) := Dig.set hO (by omega) (by omega)
  have hz1 : (out.set (i + q) ((u + x * 2 ^ s % 18446744073709551616 : Nat) : Int)).getD (i + q + 1) 0 = 0 := by rw [getD_set_ne _ _ _ _ (by omega)]; exact hz
  have es2 := yea (B := 18446744073709551616) (out.set (i + q) ((u + x * 2 ^ s % 18446744073709551616 : Nat) : Int)) (i + q + 1) (x / 2 ^ (64 - s)) 0 (by rw [List.length_set]; exact f8) hz1
  rw [Nat.mul_zero, Nat.add_zero, Nat.pow_succ] at es2
  have hstep : Ev (fun k => yav.l0 k ((64 * q + s : Nat) : Int) ((out.set (i + q) ((u + x * 2 ^ s % 18446744073709551616 : Nat) : Int)).set (i + q + 1) ((x / 2 ^ (64 - s) : Nat) : Int)) a (a.length : Int) ((i + 1 : Nat) : Int)) (dg (vl a * 2 ^ (64 * q + s))) := by
   refine IH (i + 1) _ hd1 (by rw [List.length_set, List.length_set]; exact ho) (Dig.set hO1 (Int.natCast_nonneg _) (Int.ofNat_lt.2 hhi)) ?_
   have e := up_sum es es2 p5
   show val 18446744073709551616 _ = _
   rw [e]
   show vl out + _ = _
   rw [hv, e64]
   simp only [low]
   rw [hx, Int.toNat_natCast, Nat.pow_add]
   grind
  clear es es2 p1 p3 p4 p5 hlow hv IH e64
  obtain ⟨et, em, eq, e6⟩ := yig q s hs hq
  refine Ev.step (fun k => ?_) hstep
  simp only [yav.l0]
  rw [if_pos f4, if_pos (Int.natCast_nonneg _), if_pos f4, et, em, eq, f1, if_pos (Int.natCast_nonneg _), if_pos f5, if_pos (Int.natCast_nonneg _), ycp, ycp, hu, hx, eshl, eor, Option.bind_some, Int.toNat_natCast]
  rcases Nat.eq_zero_or_pos s with h0 | h0
  · have e0 := hs0 h0
    rw [if_neg (npos_int h0), e0, f3, show ((0 : Nat) : Int) = 0 from rfl, set_same _ _ _ (by rw [List.length_set]; exact f8) hz1]
  · rw [if_pos (pos_int h0), f2, if_pos (Int.natCast_nonneg _), if_pos f6, e6, if_pos (Int.natCast_nonneg _), ycp, hz1, eshr, eor2, f3, Int.toNat_natCast]
theorem Shift_up_ev {a : List Int} (hA : L64 a) (ha : a.length < 1099511627776) (m : Nat) (hm : m < 1099511627776) (h0 : 0 < m) : Ev (fun k => yav.f k a (-(m : Int))) (dg (vl a * 2 ^ m)) := by
 have e1 : wrap64 (-(-(m : Int))) = (m : Int) := by rw [w64 (by omega) (by omega)]; omega
 have e2 : wrap64 (Int.tdiv (m : Int) 64) = ((m / 64 : Nat) : Int) := by
  rw [show Int.tdiv (m : Int) 64 = ((m / 64 : Nat) : Int) from yed _ 64]
  exact w64 (by omega) (by omega)
 have e3 : wrap64 (wrap64 ((a.length : Int) + ((m / 64 : Nat) : Int)) + 1) = ((a.length + m / 64 + 1 : Nat) : Int) := by
  rw [w64 (x := (a.length : Int) + ((m / 64 : Nat) : Int)) (by omega) (by omega), w64 (by omega) (by omega)]
  omega
 unfold yav.f
 rw [e1, e2, e3]
 refine Ev.congr (fun k => (if_pos (by omega)).trans ((if_pos (by omega)).trans (if_pos (by rw [Int.toNat_natCast]; omega)))) ?_
 have h := Shift_up_loop a hA ha (m / 64) (m % 64) (Nat.mod_lt _ (by omega)) (by omega) a.length 0 (List.replicate (a.length + m / 64 + 1) 0) (by omega) (by rw [List.length_replicate]) (Dig.zeros _ _ (by omega)) (by simp only [low, Nat.zero_mul]; exact ygn _ _)
 rw [Nat.div_add_mod] at h
 exact h
theorem getD_drop (l : List Int) (q i : Nat) : (l.drop q).getD i 0 = l.getD (q + i) 0 := by
 rw [List.getD_eq_getElem?_getD, List.getD_eq_getElem?_getD, List.getElem?_drop]
theorem down_num (x y s : Nat) (hx : x < 18446744073709551616) (hs : s < 64) : x / 2 ^ s < 2 ^ (64 - s) ∧ y * 2 ^ (64 - s) % 18446744073709551616 = y % 2 ^ s * 2 ^ (64 - s) ∧ x / 2 ^ s + y % 2 ^ s * 2 ^ (64 - s) < 18446744073709551616 ∧ (x / 2 ^ s + y % 2 ^ s * 2 ^ (64 - s)) * 2 ^ s + x % 2 ^ s = x + 18446744073709551616 * (y % 2 ^ s) := by
 have e64 : 2 ^ (64 - s) * 2 ^ s = 18446744073709551616 := by rw [← Nat.pow_add, Nat.sub_add_cancel (by omega)]
 have hP : 0 < 2 ^ s := Nat.two_pow_pos s
 have h1 : x / 2 ^ s < 2 ^ (64 - s) := by
  rw [Nat.div_lt_iff_lt_mul hP, e64]
  exact hx
 have h2 := (shl_parts y (64 - s) (by omega)).2.2.2
 rw [show 64 - (64 - s) = s from by omega] at h2
 have h3 : y % 2 ^ s < 2 ^ s := Nat.mod_lt _ hP
 have h4 : (y % 2 ^ s + 1) * 2 ^ (64 - s) ≤ 2 ^ s * 2 ^ (64 - s) := Nat.mul_le_mul_right _ h3
 rw [Nat.mul_comm (2 ^ s), e64, Nat.add_mul, Nat.one_mul] at h4
 refine ⟨h1, h2, by omega, ?_⟩
 have h5 := Nat.div_add_mod' x (2 ^ s)
 rw [Nat.add_mul, Nat.mul_assoc, e64, Nat.mul_comm (y % 2 ^ s)]
 omega
theorem down_step {P M lo lw d x y xm B r0 : Nat} (h : lo * M + r0 = lw + P * xm) (h2 : d * M + xm = x + B * y) : (lo + P * d) * M + r0 = lw + P * x + P * B * y := by
 have h3 := congrArg (P * ·) h2
 simp only [Nat.mul_add] at h3
 rw [Nat.add_mul, Nat.mul_assoc P d M, Nat.mul_assoc]
 omega
theorem Shift_down_loop (a : List Int) (hA : L64 a) (ha : a.length < 1099511627776) (q s n : Nat) (hs : s < 64) (hq : q + n = a.length) : ∀ (d i : Nat) (out : List Int), i + d = n → out.length = n → L64 out → (∀ j, i ≤ j → out.getD j 0 = (a.drop q).getD j 0) →
 low 18446744073709551616 out i * 2 ^ s + ((a.drop q).getD 0 0).toNat % 2 ^ s = low 18446744073709551616 (a.drop q) i + 18446744073709551616 ^ i * (((a.drop q).getD i 0).toNat % 2 ^ s) →
 Ev (fun k => yav.l1 k a ((64 * q + s : Nat) : Int) out (n : Int) (i : Int)) (dg (vl (a.drop q) / 2 ^ s)) := by
 intro d
 induction d with
 | zero =>
  intro i out hd ho hO hj hv
  refine Ev.step (f := fun k => (ybr.f k out).bind fun t => some t) (fun k => ?_) ?_
  · simp only [yav.l1]
    rw [if_neg (by omega)]
  · refine Ev.bind (yfw hO (by omega)) (Ev.same (Ev.now _) ?_)
    have hl : (a.drop q).length = n := by rw [List.length_drop]; omega
    rw [ydv _ out (by omega), ydv _ (a.drop q) (by omega), yhm (l := a.drop q) (i := i) (by omega)] at hv
    have hr : ((a.drop q).getD 0 0).toNat % 2 ^ s < 2 ^ s := Nat.mod_lt _ (Nat.two_pow_pos s)
    have hv2 : vl (a.drop q) = vl out * 2 ^ s + ((a.drop q).getD 0 0).toNat % 2 ^ s := by
     show val 18446744073709551616 (a.drop q) = val 18446744073709551616 out * 2 ^ s + _
     simp at hv
     simpa using hv.symm
    rw [(yhn hv2 hr).1]
 | succ d IH =>
  intro i out hd ho hO hj hv
  have hW : L64 (a.drop q) := Dig.drop hA q
  have hq40 : q < 1099511627776 := by omega
  have hs64 : s ≤ 64 := by omega
  have hs65 : 64 - s ≤ 64 := by omega
  have HV := Aside0.mk hv
  clear hv
  obtain ⟨x, hx, hx2⟩ := yct (by omega) hW i
  obtain ⟨y, hy, hy2⟩ := yct (by omega) hW (i + 1)
  obtain ⟨n1, n2, n3, n4⟩ := down_num x y s hx2 hs
  have n5 : y % 2 ^ s * 2 ^ (64 - s) < 18446744073709551616 := Nat.lt_of_le_of_lt (Nat.le_add_left _ _) n3
  have hox : out.getD i 0 = (x : Int) := by rw [hj i (Nat.le_refl _), hx]
  have hil : i < out.length := Nat.lt_of_lt_of_eq (Nat.lt_of_lt_of_le (Nat.lt_succ_of_le (Nat.le_add_right i d)) (Nat.le_of_eq hd)) ho.symm
  have hx3 : x / 2 ^ s < 18446744073709551616 := Nat.lt_of_le_of_lt (Nat.div_le_self _ _) hx2
  have hstep : Ev (fun k => yav.l1 k a ((64 * q + s : Nat) : Int) (out.set i ((x / 2 ^ s + y % 2 ^ s * 2 ^ (64 - s) : Nat) : Int)) (n : Int) ((i + 1 : Nat) : Int)) (dg (vl (a.drop q) / 2 ^ s)) := by
   refine IH (i + 1) _ ((Nat.add_right_comm i 1 d).trans hd) Z29_ (Dig.set hO (Int.natCast_nonneg _) (Int.ofNat_lt.2 n3)) (fun j hjj => ?_) ?_
   · rw [getD_set_ne _ _ _ _ (Nat.ne_of_lt hjj)]
     exact hj j (Nat.le_of_succ_le hjj)
   · rw [low_set_at out i _ hil, Int.toNat_natCast]
     simp only [low]
     have hv := HV.out
     rw [hx, Int.toNat_natCast] at hv ⊢
     rw [hy, Int.toNat_natCast, Nat.pow_succ]
     exact down_step hv n4
  obtain ⟨hin, hio, e1, e2, e3, hil, hw1⟩ := down_idx i q n a.length out.length d ha hq hd ho
  have eia : y = 0 ∨ i + 1 < n := by
   by_cases h : i + 1 < n
   · exact .inr h
   · refine .inl ?_
     rw [yhm (by rw [List.length_drop]; exact hw1 h)] at hy
     exact (Int.ofNat_eq_zero.1 hy.symm)
  obtain ⟨et, em, eq, e6⟩ := yig q s hs hq40
  have eshr : shr .u64 (x : Int) (s : Int) = ((x / 2 ^ s : Nat) : Int) := yhs x s hs64
  have eshl : shl .u64 (y : Int) ((64 - s : Nat) : Int) = ((y % 2 ^ s * 2 ^ (64 - s) : Nat) : Int) := by rw [yht y (64 - s) hs65, n2]
  have eor : Go.bits .or .u64 ((x / 2 ^ s : Nat) : Int) ((y % 2 ^ s * 2 ^ (64 - s) : Nat) : Int) = ((x / 2 ^ s + y % 2 ^ s * 2 ^ (64 - s) : Nat) : Int) := by
   rw [or_turn _ _ hx3 n5, orj _ _ (64 - s) n5 hx3 (Nat.mul_mod_left _ _) n1, Nat.add_comm]
  have hya : a.getD (q + (i + 1)) 0 = (y : Int) := by rw [← getD_drop]; exact hy
  clear n4 IH
  refine Ev.step (fun k => ?_) hstep
  simp only [yav.l1]
  rw [if_pos hin, if_pos (Int.natCast_nonneg _), if_pos hio, et, em, eq, if_pos (Int.natCast_nonneg _), ycp, hox, eshr, Option.bind_some, Int.toNat_natCast]
  rcases Nat.eq_zero_or_pos s with h0 | h0
  · rw [if_neg (npos_int h0), e1]
    have : y % 2 ^ s = 0 := by rw [h0]; exact Nat.mod_one y
    rw [this, Nat.zero_mul, Nat.add_zero (x / 2 ^ s)]
  · rw [if_pos (pos_int h0), e1]
    by_cases hn : ((i + 1 : Nat) : Int) < (out.length : Int)
    · rw [if_pos hn, e2, if_pos (Int.natCast_nonneg _), if_pos (e3 hn), e6, if_pos (Int.natCast_nonneg _), ycp, ycp, yep _ _ _ hil, hya, eshl, eor, List.set_set]
    · rw [if_neg hn]
      have hy0 : y = 0 := by
       rcases eia with h | h
       · exact h
       · exact absurd (Int.ofNat_lt.2 (Nat.lt_of_lt_of_eq h ho.symm)) hn
      rw [hy0, Nat.zero_mod, Nat.zero_mul, Nat.add_zero (x / 2 ^ s)]
theorem vl_drop {a : List Int} (hA : L64 a) (q : Nat) (hq : q ≤ a.length) : vl (a.drop q) = vl a / 18446744073709551616 ^ q := by
 have e := ygf 18446744073709551616 a q hq
 have h : val 18446744073709551616 (a.take q) < 18446744073709551616 ^ q := by
  have := ygo (B := 18446744073709551616) (by omega) (Dig.take hA q)
  rw [List.length_take, Nat.min_eq_left hq] at this
  exact this
 unfold vl
 rw [e, Nat.add_mul_div_left _ _ (Nat.pow_pos (by omega)), Nat.div_eq_of_lt h, Nat.zero_add]
theorem yhp {a : List Int} (hA : L64 a) (ha : a.length < 1099511627776) (m : Nat) (hm : m < 4611686018427387904) : Ev (fun k => yav.f k a (m : Int)) (dg (vl a / 2 ^ m)) := by
 have e1 : wrap64 (64 * (a.length : Int)) = ((64 * a.length : Nat) : Int) := w64 (by omega) (by omega)
 have e2 : wrap64 (Int.tdiv (m : Int) 64) = ((m / 64 : Nat) : Int) := by
  rw [show Int.tdiv (m : Int) 64 = ((m / 64 : Nat) : Int) from yed _ 64]
  exact w64 (by omega) (by omega)
 unfold yav.f
 rw [e1, e2]
 refine Ev.congr (fun k => if_neg (by omega)) ?_
 by_cases h : 64 * a.length ≤ m
 · refine Ev.congr (fun k => if_pos (by omega)) (Ev.same (Ev.now _) ?_)
   have h1 : vl a < 2 ^ m := by
    refine Nat.lt_of_lt_of_le (yim hA) ?_
    rw [pow64]
    exact Nat.pow_le_pow_right (by omega) h
   rw [Nat.div_eq_of_lt h1]
   exact (ydp _).symm
 · refine Ev.congr (fun k => (if_neg (by omega)).trans ((if_pos (by omega)).trans (if_pos (by omega)))) ?_
   rw [Int.toNat_natCast, clone_ev (by rw [List.length_drop]; omega)]
   refine Ev.congr (fun k => Option.bind_some _ _) ?_
   have hl : (a.drop (m / 64)).length = a.length - m / 64 := List.length_drop ..
   have hh := Shift_down_loop a hA ha (m / 64) (m % 64) (a.length - m / 64) (Nat.mod_lt _ (by omega)) (by omega) (a.length - m / 64) 0 (a.drop (m / 64)) (by omega) hl (Dig.drop hA _) (fun _ _ => rfl) (by simp [low])
   rw [Nat.div_add_mod, vl_drop hA _ (by omega), pow64, Nat.div_div_eq_div_mul, ← Nat.pow_add, Nat.div_add_mod] at hh
   rw [hl]
   exact hh
end Go.Proofs.Ytgnaaaliadiekaa.Q
end
