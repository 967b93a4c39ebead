/- A part of the proof (merged by pack.py, a program of this session: what the row's proof names). -/
import Derived.Test.YtgnaaaliadiekaaM4
import Derived.Test.YtgnaaaliadiekaaM5
import Derived.Test.YtgnaaaliadiekaaM13
import Derived.Test.YtgnaaaliadiekaaM16
import Derived.Test.YtgnaaaliadiekaaM18
import Derived.Test.YtgnaaaliadiekaaM20
import Derived.Test.YtgnaaaliadiekaaM23
import Derived.Test.YtgnaaaliadiekaaM24
import Derived.Test.YtgnaaaliadiekaaM25
import Derived.Test.YtgnaaaliadiekaaM26
import Derived.Test.YtgnaaaliadiekaaM32
import Derived.Test.YtgnaaaliadiekaaM40
import Derived.Test.YtgnaaaliadiekaaM0
section
namespace Go.Proofs.Ytgnaaaliadiekaa.Q
open Go.RowKit Go.Proofs.Ytgnaaaliadiekaa.B Go.Proofs.YtgnaaaliadiekaaW.PrintWords Go.Proofs.YtgnaaaliadiekaaW.PrintLast Go.Proofs.YtgnaaaliadiekaaW.PrintMore
set_option linter.unusedVariables false
theorem subs_nat (x y c : Nat) : ygy (x : Int) (y : Int) (c : Int) = (((x + 18446744073709551616 - y - c) % 18446744073709551616 : Nat) : Int) := by simp [ygy]
theorem subc_nat (x y c : Nat) : yif (x : Int) (y : Int) (c : Int) = ((if x < y + c then 1 else 0 : Nat) : Int) := by
 unfold yif
 simp only [Int.toNat_natCast]
 split <;> rfl
theorem sub_digit {x y c : Nat} (hx : x < 18446744073709551616) (hy : y < 18446744073709551616) (hc : c ≤ 1) :
 (x + 18446744073709551616 - y - c) % 18446744073709551616 + y + c = x + 18446744073709551616 * (if x < y + c then 1 else 0) ∧ (x + 18446744073709551616 - y - c) % 18446744073709551616 < 18446744073709551616 ∧ (if x < y + c then 1 else 0) ≤ 1 := by
 split <;> omega
theorem set_drop (l : List Int) (i j : Nat) (x : Int) (h : i < j) : (l.set i x).drop j = l.drop j := by
 rw [List.drop_set]
 simp [h]
theorem take_alg {B P V2 E x y vv c b l' ca s u b' val1 U0 : Nat} (h1 : l' + B * ca = x * y + c) (h2 : s + l' + b = u + B * b') (h3 : U0 + P * u + P * l' + P * b = U0 + P * s + P * l' + P * b + 0 → True) (hs : val1 + P * u = U0 + P * s) (hr : V2 + P * B * (x * vv + ca + b') = val1 + E) :
 V2 + P * (x * (y + B * vv) + c + b) = U0 + E := by
 have e1 : P * (x * (y + B * vv) + c + b) = P * (x * y + c) + P * b + P * B * (x * vv) := by grind
 have e2 : P * (x * y + c) = P * l' + P * B * ca := by rw [← h1]; grind
 have e3 : P * s + P * l' + P * b = P * u + P * B * b' := by
  have := congrArg (P * ·) h2
  simp only [Nat.mul_add] at this
  rw [this, Nat.mul_assoc]
 have e4 : P * B * (x * vv + ca + b') = P * B * (x * vv) + P * B * ca + P * B * b' := by simp only [Nat.mul_add]
 rw [e4] at hr
 rw [e1, e2]
 omega
theorem ntake_go (x : Nat) (hx : x < 18446744073709551616) : ∀ (v U : List Int) (o c b : Nat), L64 v → L64 U → o + v.length < U.length → c < 18446744073709551616 → b ≤ 1 →
 ∃ (f : Bool) (U' : List Int), yio.go (x : Int) v U o (c : Int) (b : Int) = some (f, U') ∧ U'.length = U.length ∧ L64 U' ∧ U'.drop (o + v.length + 1) = U.drop (o + v.length + 1) ∧
  vl U' + 18446744073709551616 ^ o * (x * vl v + c + b) = vl U + (if f = true then 18446744073709551616 ^ (o + v.length + 1) else 0)
 | [], U, o, c, b, hv, hU, ho, hc, hb => by
  obtain ⟨u, hu, hu2⟩ := yct (by omega) hU o
  obtain ⟨d1, d2, d3⟩ := sub_digit hu2 hc hb
  have es := yea (B := 18446744073709551616) U o ((u + 18446744073709551616 - c - b) % 18446744073709551616) u (by simpa using ho) hu
  refine ⟨decide (((if u < c + b then 1 else 0 : Nat) : Int) > 0), U.set o (((u + 18446744073709551616 - c - b) % 18446744073709551616 : Nat) : Int), ?_, ?_, ?_, ?_, ?_⟩
  · simp only [yio.go]
    rw [Int.toNat_natCast, if_pos hb, hu, subs_nat, subc_nat]
  · rw [List.length_set]
  · exact Dig.set hU (by omega) (by omega)
  · simp only [List.length_nil]
    exact set_drop _ _ _ _ (by omega)
  · simp only [List.length_nil, Nat.add_zero, Nat.pow_succ, decide_eq_true_eq]
    have e0 : x * vl [] = 0 := by simp [vl, val]
    rw [e0, Nat.zero_add]
    have eb : (if (((if u < c + b then 1 else 0 : Nat) : Int) > 0) then 18446744073709551616 ^ o * 18446744073709551616 else 0) = 18446744073709551616 ^ o * 18446744073709551616 * (if u < c + b then 1 else 0) := by
     by_cases hl : u < c + b
     · rw [if_pos hl]; simp
     · rw [if_neg hl]; simp
    rw [eb]
    generalize (u + 18446744073709551616 - c - b) % 18446744073709551616 = s at *
    generalize (if u < c + b then 1 else 0) = b' at *
    generalize hV : vl (U.set o (s : Int)) = X at *
    have es2 : X + 18446744073709551616 ^ o * u = vl U + 18446744073709551616 ^ o * s := by rw [← hV]; exact es
    generalize 18446744073709551616 ^ o = P at *
    have h2 := congrArg (P * ·) d1
    simp only [Nat.mul_add] at h2
    rw [Nat.mul_add, Nat.mul_assoc]
    omega
 | y :: v, U, o, c, b, hv, hU, ho, hc, hb => by
  obtain ⟨u, hu, hu2⟩ := yct (by omega) hU o
  obtain ⟨y, rfl⟩ := Int.eq_ofNat_of_zero_le hv.head.1
  have hy : y < 18446744073709551616 := Int.ofNat_lt.1 hv.head.2
  have hM := yhq x y hx hy
  have hp : x * y / 18446744073709551616 * 18446744073709551616 + x * y % 18446744073709551616 = x * y := Nat.div_add_mod' _ _
  have hxy : x * y ≤ 18446744073709551615 * 18446744073709551615 := Nat.mul_le_mul (by omega) (by omega)
  have hml : x * y % 18446744073709551616 < 18446744073709551616 := Nat.mod_lt _ (by omega)
  generalize x * y / 18446744073709551616 = h at *
  generalize x * y % 18446744073709551616 = l at *
  have ha := Nat.mod_add_div (l + c) 18446744073709551616
  have hal : (l + c) % 18446744073709551616 < 18446744073709551616 := Nat.mod_lt _ (by omega)
  have hca : h + (l + c) / 18446744073709551616 < 18446744073709551616 := by omega
  have q1 := adds_nat l c 0
  have q2 := addc_nat l c 0
  rw [show ((0 : Nat) : Int) = 0 from rfl, Nat.add_zero] at q1 q2
  generalize (l + c) % 18446744073709551616 = l' at *
  generalize (l + c) / 18446744073709551616 = k at *
  obtain ⟨d1, d2, d3⟩ := sub_digit hu2 hal hb
  have es := yea (B := 18446744073709551616) U o ((u + 18446744073709551616 - l' - b) % 18446744073709551616) u (by simp at ho; omega) hu
  obtain ⟨f, U', g1, g2, g3, g4, g5⟩ := ntake_go x hx v (U.set o (((u + 18446744073709551616 - l' - b) % 18446744073709551616 : Nat) : Int)) (o + 1) (h + k) (if u < l' + b then 1 else 0) hv.tail (Dig.set hU (by omega) (by omega)) (by rw [List.length_set]; simp at ho; omega) hca d3
  refine ⟨f, U', ?_, by rw [g2, List.length_set], g3, ?_, ?_⟩
  · simp only [yio.go]
    rw [hM]
    rw [Option.bind_some]
    dsimp only
    rw [Int.toNat_natCast, if_pos hb, hu, q1, q2, addN, wu _ hca, subs_nat, subc_nat]
    exact g1
  · rw [List.length_cons, show o + (v.length + 1) + 1 = o + 1 + v.length + 1 from by omega, g4, set_drop _ _ _ _ (by omega)]
  · rw [List.length_cons, show o + (v.length + 1) + 1 = o + 1 + v.length + 1 from by omega]
    have ev : vl ((y : Int) :: v) = y + 18446744073709551616 * vl v := by simp [vl, val]
    rw [ev]
    generalize (u + 18446744073709551616 - l' - b) % 18446744073709551616 = s at *
    generalize (if u < l' + b then 1 else 0) = b' at *
    generalize (if f = true then 18446744073709551616 ^ (o + 1 + v.length + 1) else 0) = E at *
    rw [Nat.pow_succ] at g5
    exact take_alg (B := 18446744073709551616) (P := 18446744073709551616 ^ o) (ca := h + k) (by omega) d1 (fun _ => trivial) es g5
theorem nback_go : ∀ (v U : List Int) (o c : Nat), L64 v → L64 U → o + v.length < U.length → c ≤ 1 →
 ∃ (U' : List Int) (k : Nat), yhy.go v U o (c : Int) = some U' ∧ U'.length = U.length ∧ L64 U' ∧ U'.drop (o + v.length + 1) = U.drop (o + v.length + 1) ∧ k ≤ 1 ∧
  vl U' + 18446744073709551616 ^ (o + v.length + 1) * k = vl U + 18446744073709551616 ^ o * (vl v + c)
 | [], U, o, c, hv, hU, ho, hc => by
  obtain ⟨u, hu, hu2⟩ := yct (by omega) hU o
  have d1 := Nat.mod_add_div (u + c) 18446744073709551616
  have es := yea (B := 18446744073709551616) U o ((u + c) % 18446744073709551616) u (by simpa using ho) hu
  refine ⟨U.set o (((u + c) % 18446744073709551616 : Nat) : Int), (u + c) / 18446744073709551616, ?_, by rw [List.length_set], Dig.set hU (by omega) (by omega), ?_, by omega, ?_⟩
  · simp only [yhy.go]
    rw [hu, addN]
    rfl
  · simp only [List.length_nil]
    exact set_drop _ _ _ _ (by omega)
  · have e0 : vl [] = 0 := rfl
    rw [e0, List.length_nil, Nat.add_zero, Nat.zero_add, Nat.pow_succ]
    generalize (u + c) % 18446744073709551616 = s at *
    generalize (u + c) / 18446744073709551616 = t at *
    have es2 : vl (U.set o (s : Int)) + 18446744073709551616 ^ o * u = vl U + 18446744073709551616 ^ o * s := es
    generalize vl (U.set o (s : Int)) = X at *
    generalize 18446744073709551616 ^ o = P at *
    have h2 := congrArg (P * ·) d1
    simp only [Nat.mul_add] at h2
    rw [Nat.mul_assoc]
    omega
 | y :: v, U, o, c, hv, hU, ho, hc => by
  obtain ⟨u, hu, hu2⟩ := yct (by omega) hU o
  obtain ⟨y, rfl⟩ := Int.eq_ofNat_of_zero_le hv.head.1
  have hy : y < 18446744073709551616 := Int.ofNat_lt.1 hv.head.2
  have d1 := Nat.mod_add_div (u + y + c) 18446744073709551616
  have es := yea (B := 18446744073709551616) U o ((u + y + c) % 18446744073709551616) u (by simp at ho; omega) hu
  obtain ⟨U', k, g1, g2, g3, g4, g5, g6⟩ := nback_go v (U.set o (((u + y + c) % 18446744073709551616 : Nat) : Int)) (o + 1) ((u + y + c) / 18446744073709551616) hv.tail (Dig.set hU (by omega) (by omega)) (by rw [List.length_set]; simp at ho; omega) (by omega)
  refine ⟨U', k, ?_, by rw [g2, List.length_set], g3, ?_, g5, ?_⟩
  · simp only [yhy.go]
    rw [Int.toNat_natCast, if_pos hc, hu, adds_nat, addc_nat]
    exact g1
  · rw [List.length_cons, show o + (v.length + 1) + 1 = o + 1 + v.length + 1 from by omega, g4, set_drop _ _ _ _ (by omega)]
  · rw [List.length_cons, show o + (v.length + 1) + 1 = o + 1 + v.length + 1 from by omega, g6]
    have ev : vl ((y : Int) :: v) = y + 18446744073709551616 * vl v := by simp [vl, val]
    rw [ev]
    generalize (u + y + c) % 18446744073709551616 = s at *
    generalize (u + y + c) / 18446744073709551616 = t at *
    have es2 : vl (U.set o (s : Int)) + 18446744073709551616 ^ o * u = vl U + 18446744073709551616 ^ o * s := es
    generalize vl (U.set o (s : Int)) = X at *
    rw [Nat.pow_succ]
    generalize 18446744073709551616 ^ o = P at *
    have h2 := congrArg (P * ·) d1
    simp only [Nat.mul_add] at h2
    simp only [Nat.mul_add, Nat.mul_assoc]
    omega
end Go.Proofs.Ytgnaaaliadiekaa.Q
end
section
namespace Go.Proofs.Ytgnaaaliadiekaa.Q
open Go.RowKit Go.Proofs.Ytgnaaaliadiekaa.B Go.Proofs.YtgnaaaliadiekaaW.PrintWords Go.Proofs.YtgnaaaliadiekaaW.PrintLast Go.Proofs.YtgnaaaliadiekaaW.PrintMore
set_option linter.unusedVariables false
theorem rsub_digit {u y c : Nat} (hu : u < 65536) (hy : y < 65536) (hc : c ≤ 1) (z : Nat) (hz : z = (u + 65536 - y - c) % 65536) : z + y + c = u + 65536 * (if u < y + c then 1 else 0) ∧ z < 65536 ∧ (if u < y + c then 1 else 0) ≤ 1 ∧
 ((u : Int) - c - y < 0 ↔ u < y + c) ∧ (u < y + c → wrap64 (wrap64 (wrap64 ((u : Int) - c) - y) + 65536) = (z : Int)) ∧ (¬ u < y + c → wrap64 (wrap64 ((u : Int) - c) - y) = (z : Int)) ∧ wrap64 (wrap64 ((u : Int) - c) - y) = (u : Int) - c - y := by
 subst hz
 have h1 : wrap64 ((u : Int) - c) = (u : Int) - c := w64 (by omega) (by omega)
 rw [h1]
 have h2 : wrap64 ((u : Int) - c - y) = (u : Int) - c - y := w64 (by omega) (by omega)
 rw [h2]
 refine ⟨by split <;> omega, by omega, by split <;> omega, by omega, fun h => ?_, fun h => by omega, rfl⟩
 rw [w64 (by omega) (by omega)]
 omega
theorem rSub_loop (m n : Nat) (ha : (dd m).length < 1099511627776) (hb : (dd n).length < 1099511627776) (hnm : n ≤ m) : ∀ (d i c : Nat) (out : List Int), i + d = (dd m).length → out.length = i → L16 out → c ≤ 1 →
 vd out + low 65536 (dd n) i = low 65536 (dd m) i + 65536 ^ i * c →
 Ev (fun k => ybb.l0 k (dd m) (dd n) out (c : Int) (i : Int)) (dd (m - n)) := by
 intro d
 induction d with
 | zero =>
  intro i c out hd ho hO hc hv
  refine Ev.step (f := fun k => (yam.f k out).bind fun t => some t) (fun k => ?_) ?_
  · simp only [ybb.l0]
    rw [if_neg (by omega)]
  · refine Ev.bind (yhr hO (by omega)) (Ev.same (Ev.now _) ?_)
    rw [ydv _ (dd m) (by omega), show val 65536 (dd m) = m from ygm m] at hv
    have hl : (dd n).length ≤ i := by
     have := yft.2 (Nat.lt_of_le_of_lt hnm (yft.1 (Nat.le_refl (dd m).length)))
     omega
    rw [ydv _ (dd n) hl, show val 65536 (dd n) = n from ygm n] at hv
    have ho2 : vd out < 65536 ^ i := by have := ygo (B := 65536) (by omega) hO; rw [ho] at this; exact this
    have : vd out = m - n := by
     rcases Nat.eq_zero_or_pos c with h0 | h0
     · subst h0
       omega
     · have h1 : c = 1 := by omega
       subst h1
       omega
    rw [this]
 | succ d IH =>
  intro i c out hd ho hO hc hv
  have HV := Aside0.mk hv
  clear hv
  have e1 : wrap64 ((i : Int) + 1) = ((i + 1 : Nat) : Int) := w64 (by omega) (by omega)
  have e2 : out.length < 17592186044416 := by omega
  have i1 : (i : Int) < ((dd m).length : Int) := by omega
  have i2 : (0 : Int) ≤ (i : Int) := by omega
  have i3 : i + 1 + d = (dd m).length := by omega
  obtain ⟨u, hu, hu2⟩ := yct (by omega) (dd_L m) i
  obtain ⟨y, hy, hy2⟩ := yct (by omega) (dd_L n) i
  obtain ⟨z, hz⟩ : ∃ z, z = (u + 65536 - y - c) % 65536 := ⟨_, rfl⟩
  obtain ⟨d1, d2, d3, d4, d5, d6, d7⟩ := rsub_digit hu2 hy2 hc z hz
  have IH2 := IH (i + 1) (if u < y + c then 1 else 0) (out ++ [(z : Int)]) i3 (by simp [ho]) (Dig.append hO (Dig.cons (Int.natCast_nonneg z) (Int.ofNat_lt.2 d2) (Dig.nil _))) d3 (by
   clear d3 d4 d5 d6 d7 e1 e2 i1 i2 i3
   unfold vd
   rw [val_append, ho]
   simp only [low, val]
   rw [hu, hy, Int.toNat_natCast, Int.toNat_natCast, Int.toNat_natCast, Nat.pow_succ, Nat.mul_zero, Nat.add_zero]
   have hv := HV.out
   unfold vd at hv
   have h4 := congrArg (65536 ^ i * ·) d1
   simp only [Nat.mul_add] at h4
   rw [Nat.mul_assoc]
   omega)
  clear hz
  refine Ev.step (fun k => ?_) IH2
  simp only [ybb.l0]
  rw [if_pos i1, if_pos i2, ycp, ycp, hu, hy]
  rw [e1]
  clear d1 d2 d3
  by_cases hi : i < (dd n).length
  · rw [if_pos (Int.ofNat_lt.2 hi)]
    by_cases hl : u < y + c
    · rw [if_pos (by rw [d7]; exact d4.2 hl), if_pos e2, d5 hl, if_pos hl]
      rfl
    · rw [if_neg (by rw [d7]; exact fun h => hl (d4.1 h)), if_pos e2, d6 hl, if_neg hl]
      rfl
  · have hy0 : y = 0 := by
     rw [yhm (Nat.le_of_not_lt hi)] at hy
     exact (Int.ofNat_eq_zero.1 hy.symm)
    subst hy0
    have e3 : wrap64 (wrap64 ((u : Int) - c) - ((0 : Nat) : Int)) = wrap64 ((u : Int) - c) := by
     clear d4 d5 d6
     rw [d7, w64 (x := (u : Int) - c) (by omega) (by omega)]
     simp
    rw [e3] at d5 d6 d7
    rw [if_neg (fun h => hi (Int.ofNat_lt.1 h))]
    by_cases hl : u < 0 + c
    · rw [if_pos (by rw [d7]; exact d4.2 hl), if_pos e2, d5 hl, if_pos hl]
      rfl
    · rw [if_neg (by rw [d7]; exact fun h => hl (d4.1 h)), if_pos e2, d6 hl, if_neg hl]
      rfl
theorem rSub_ev (m n : Nat) (ha : (dd m).length < 1099511627776) (hb : (dd n).length < 1099511627776) (hnm : n ≤ m) : Ev (fun k => ybb.f k (dd m) (dd n)) (dd (m - n)) :=
 rSub_loop m n ha hb hnm (dd m).length 0 0 [] (by omega) rfl (Dig.nil _) (by omega) rfl
theorem Small_loop (n : Nat) : ∀ (out : List Int), out.length + n < 9223372036854775808 → (dd n).length + out.length < 17592186044416 → Ev (fun k => yat.l0 k (n : Int) out) (out ++ dd n) := by
 induction n using Nat.strongRecOn with
 | _ n ih =>
  intro out h hl
  by_cases h0 : n = 0
  · subst h0
    refine Ev.step (f := fun _ => some out) (fun k => ?_) (Ev.same (Ev.now _) ?_)
    · simp only [yat.l0]
      rw [if_neg (by omega)]
    · rw [show dd 0 = [] from ydp _, List.append_nil]
  · have e : dd n = ((n % 65536 : Nat) : Int) :: dd (n / 65536) := ygw (by omega) h0
    rw [e, List.length_cons] at hl
    refine Ev.step (f := fun k => yat.l0 k ((n / 65536 : Nat) : Int) (out ++ [((n % 65536 : Nat) : Int)])) (fun k => ?_) (Ev.same (ih (n / 65536) (by omega) (out ++ [((n % 65536 : Nat) : Int)]) (by simp; omega) (by simp; omega)) ?_)
    · simp only [yat.l0]
      rw [if_pos (by omega), if_pos (by omega), show Int.tmod (n : Int) 65536 = ((n % 65536 : Nat) : Int) from yfe n 65536, show Int.tdiv (n : Int) 65536 = ((n / 65536 : Nat) : Int) from yed n 65536, w64 (by omega) (by omega)]
    · rw [e, List.append_assoc]
      rfl
theorem dd_len63 {n : Nat} (h : n < 9223372036854775808) : (dd n).length ≤ 4 := yft.2 (by omega)
theorem Small_ev (n : Nat) (h : n < 9223372036854775808) : Ev (fun k => yat.f k (n : Int)) (dd n) := by
 have hl := dd_len63 h
 exact Small_loop n [] (by simpa using h) (by simp; omega)
end Go.Proofs.Ytgnaaaliadiekaa.Q
end
section
namespace Go.Proofs.Ytgnaaaliadiekaa.Q
open Go.RowKit Go.Proofs.Ytgnaaaliadiekaa.B Go.Proofs.YtgnaaaliadiekaaW.PrintWords Go.Proofs.YtgnaaaliadiekaaW.PrintLast Go.Proofs.YtgnaaaliadiekaaW.PrintMore
set_option linter.unusedVariables false
theorem and1 (n : Nat) (h : n < 18446744073709551616) : Go.bits .and .u64 (n : Int) 1 = ((n % 2 : Nat) : Int) := by
 have e := bits_mask .u64 64 (by decide) u64_keeps 1 (by decide) (n : Int) (by omega) (by omega)
 exact e
theorem odd_val {B : Nat} (hB : 2 ∣ B) {l : List Int} (hl : 0 < l.length) : val B l % 2 = (rd l 0).toNat % 2 := by
 cases l with
 | nil => simp at hl
 | cons x r =>
  obtain ⟨c, rfl⟩ := hB
  have : rd (x :: r) 0 = x := rfl
  rw [this]
  show (x.toNat + 2 * c * val (2 * c) r) % 2 = _
  rw [Nat.mul_assoc]
  omega
theorem rd_head {B : Nat} (hB : 0 < B) {l : List Int} (h : Dig B l) (hl : 0 < l.length) : ∃ x : Nat, rd l 0 = (x : Int) ∧ x < B ∧ (2 ∣ B → val B l % 2 = x % 2) := by
 obtain ⟨x, h1, h2⟩ := yct hB h 0
 have h3 : rd l 0 = (x : Int) := by rw [show (0 : Int) = ((0 : Nat) : Int) from rfl, ycp]; exact h1
 exact ⟨x, h3, h2, fun hd => by rw [odd_val hd hl, h3]; rfl⟩
def KeyC (N E : Nat) : Prop := 62 ≤ (bl N + 7) / 8 ∧ (bl N + 7) / 8 ≤ 256 ∧ N % 2 = 1 ∧ 3 ≤ E ∧ E % 2 = 1 ∧ E < N
instance (N E : Nat) : Decidable (KeyC N E) := by unfold KeyC; infer_instance
theorem size_num (b : Nat) (h : b < 1000000) : wrap64 (Int.tdiv (wrap64 ((b : Int) + 7)) 8) = (((b + 7) / 8 : Nat) : Int) := by
 have e1 : wrap64 ((b : Int) + 7) = ((b + 7 : Nat) : Int) := w64 (by omega) (by omega)
 rw [e1, show Int.tdiv ((b + 7 : Nat) : Int) 8 = (((b + 7) / 8 : Nat) : Int) from yed _ 8]
 exact w64 (by omega) (by omega)
theorem size_ev {l : List Int} (hl : L64 l) (nl : l.length < 1000) (m : List Int) : Ev (fun k => ydu.f k l m) (((bl (vl l) + 7) / 8 : Nat) : Int) := by
 have hb : bl (vl l) ≤ 64 * l.length := yge.2 (by rw [← pow64]; exact yim hl)
 unfold ydu.f
 refine Ev.bind (Len_ev hl (by omega)) ?_
 refine Ev.same (Ev.now _) ?_
 exact size_num _ (by omega)
theorem yfs {l : List Int} (hl : L64 l) (nl : l.length < 1000) : (dd (vl l)).length ≤ 4000 := Nat.le_trans (dd_small (yim hl)) (by omega)
theorem rsize_ev {l : List Int} (hl : L64 l) (nl : l.length < 1000) (m : List Int) : Ev (fun k => ybd.f k l m) (((bl (vl l) + 7) / 8 : Nat) : Int) := by
 have hb : bl (vl l) ≤ 64 * l.length := yge.2 (by rw [← pow64]; exact yim hl)
 have hd := yfs hl nl
 unfold ybd.f
 refine Ev.bind (rOf_ev hl (by omega)) ?_
 refine Ev.bind (rLen_ev (by omega)) ?_
 refine Ev.same (Ev.now _) ?_
 exact size_num _ (by omega)
theorem len_pos {B : Nat} {l : List Int} (h : val B l ≠ 0) : 0 < l.length := by
 cases l with
 | nil => exact absurd rfl h
 | cons x r => simp
theorem yer {a b : Nat} : cmp3 a b < 0 ↔ a < b := by
 unfold cmp3
 by_cases h : a < b
 · simp [h]
 · by_cases h2 : b < a
   · simp [h, h2]
   · simp [h, h2]
theorem check_ev {l m : List Int} (hl : L64 l) (hm : L64 m) (nl : l.length < 1000) (nm : m.length < 1000) : Ev (fun k => ycq.f k l m) (if KeyC (vl l) (vl m) then 0 else 41) := by
 unfold ycq.f
 refine Ev.bind (size_ev hl nl m) ?_
 by_cases c1 : (bl (vl l) + 7) / 8 < 62
 · rw [if_neg (fun h => by have := h.1; omega)]
   refine Ev.congr (fun k => if_pos (by omega)) (Ev.now _)
 refine Ev.congr (fun k => if_neg (by omega)) ?_
 by_cases c2 : 256 < (bl (vl l) + 7) / 8
 · rw [if_neg (fun h => by have := h.2.1; omega)]
   refine Ev.congr (fun k => if_pos (by omega)) (Ev.now _)
 refine Ev.congr (fun k => if_neg (by omega)) ?_
 have hl0 : vl l ≠ 0 := fun h => by rw [h, yfu] at c1; omega
 have hlp : 0 < l.length := len_pos hl0
 refine Ev.congr (fun k => if_pos (by omega)) ?_
 obtain ⟨x, hx, hxb, hx2⟩ := rd_head (by omega) hl hlp
 have hx2 : vl l % 2 = x % 2 := hx2 (by decide)
 rw [hx, and1 x hxb]
 by_cases c3 : x % 2 = 0
 · rw [if_neg (fun h => by have := h.2.2.1; omega)]
   refine Ev.congr (fun k => if_pos (by omega)) (Ev.now _)
 refine Ev.congr (fun k => if_neg (by omega)) ?_
 refine Ev.bind (Of_ev (n := 3) (by omega) (by omega)) ?_
 have h3 : (dg (3 : Int).toNat).length ≤ 1 := ygl.2 (by decide)
 refine Ev.bind (Cmp_ev hm (dg_L _) (by omega) (by omega)) ?_
 rw [yfj, show ((3 : Int).toNat) = 3 from rfl]
 by_cases c4 : vl m < 3
 · rw [if_neg (fun h => by have := h.2.2.2.1; omega)]
   refine Ev.congr (fun k => if_pos (yer.2 c4)) (Ev.now _)
 refine Ev.congr (fun k => if_neg (fun h => c4 (yer.1 h))) ?_
 have hmp : 0 < m.length := len_pos (B := 18446744073709551616) (fun h => by have : vl m = 0 := h; omega)
 refine Ev.congr (fun k => if_pos (by omega)) ?_
 obtain ⟨y, hy, hyb, hy2⟩ := rd_head (by omega) hm hmp
 have hy2 : vl m % 2 = y % 2 := hy2 (by decide)
 rw [hy, and1 y hyb]
 by_cases c5 : y % 2 = 0
 · rw [if_neg (fun h => by have := h.2.2.2.2.1; omega)]
   refine Ev.congr (fun k => if_pos (by omega)) (Ev.now _)
 refine Ev.congr (fun k => if_neg (by omega)) ?_
 refine Ev.bind (Cmp_ev hm hl (by omega) (by omega)) ?_
 by_cases c6 : vl m < vl l
 · rw [show (if KeyC (vl l) (vl m) then (0 : Int) else 41) = 0 from if_pos ⟨by omega, by omega, by omega, by omega, by omega, c6⟩]
   exact Ev.congr (fun k => if_neg (by have := yer.2 c6; omega)) (Ev.now _)
 · rw [show (if KeyC (vl l) (vl m) then (0 : Int) else 41) = 41 from if_neg (fun h => c6 h.2.2.2.2.2)]
   exact Ev.congr (fun k => if_pos (Int.not_lt.1 (fun h => c6 (yer.1 h)))) (Ev.now _)
theorem rsaRef_ev {l m : List Int} (hl : L64 l) (hm : L64 m) (nl : l.length < 1000) (nm : m.length < 1000) (pl : vl l ≠ 0) (pm : vl m ≠ 0) : Ev (fun k => ybf.f k l m) (decide (KeyC (vl l) (vl m))) := by
 have dl := yfs hl nl
 have dm := yfs hm nm
 unfold ybf.f
 refine Ev.bind (rOf_ev hl (by omega)) ?_
 refine Ev.bind (rOf_ev hm (by omega)) ?_
 refine Ev.bind (rsize_ev hl nl m) ?_
 by_cases c1 : (bl (vl l) + 7) / 8 < 62
 · rw [decide_eq_false (fun h => by have := h.1; omega)]
   refine Ev.congr (fun k => if_neg (by omega)) (Ev.now _)
 refine Ev.congr (fun k => if_pos (by omega)) ?_
 refine Ev.bind (rsize_ev hl nl m) ?_
 by_cases c2 : 256 < (bl (vl l) + 7) / 8
 · rw [decide_eq_false (fun h => by have := h.2.1; omega)]
   refine Ev.congr (fun k => if_neg (by omega)) (Ev.now _)
 refine Ev.congr (fun k => if_pos (by omega)) ?_
 have hlp : 0 < (dd (vl l)).length := len_pos (B := 65536) (fun h => pl (by rw [← ygm (vl l)]; exact h))
 have hmp : 0 < (dd (vl m)).length := len_pos (B := 65536) (fun h => pm (by rw [← ygm (vl m)]; exact h))
 refine Ev.congr (fun k => if_pos (by omega)) ?_
 refine Ev.congr (fun k => if_pos (by omega)) ?_
 obtain ⟨x, hx, hxb, hx2⟩ := rd_head (by omega) (dd_L (vl l)) hlp
 have hx2 : vl l % 2 = x % 2 := by have h := hx2 (by decide); rwa [show val 65536 (dd (vl l)) = vl l from ygm _] at h
 rw [hx, show Int.tmod (x : Int) 2 = ((x % 2 : Nat) : Int) from yfe _ 2]
 by_cases c3 : x % 2 = 0
 · rw [decide_eq_false (fun h => by have := h.2.2.1; omega)]
   refine Ev.congr (fun k => if_neg (by omega)) (Ev.now _)
 refine Ev.congr (fun k => if_pos (by omega)) ?_
 refine Ev.bind (Small_ev 3 (by decide)) ?_
 refine Ev.bind (rcmp_ev (vl m) 3 (by omega)) ?_
 by_cases c4 : vl m < 3
 · rw [decide_eq_false (fun h => by have := h.2.2.2.1; omega)]
   refine Ev.congr (fun k => if_neg (by have := yer.2 c4; omega)) (Ev.now _)
 refine Ev.congr (fun k => if_pos (Int.not_lt.1 (fun h => c4 (yer.1 h)))) ?_
 refine Ev.congr (fun k => if_pos (by omega)) ?_
 obtain ⟨y, hy, hyb, hy2⟩ := rd_head (by omega) (dd_L (vl m)) hmp
 have hy2 : vl m % 2 = y % 2 := by have h := hy2 (by decide); rwa [show val 65536 (dd (vl m)) = vl m from ygm _] at h
 rw [hy, show Int.tmod (y : Int) 2 = ((y % 2 : Nat) : Int) from yfe _ 2]
 by_cases c5 : y % 2 = 0
 · rw [decide_eq_false (fun h => by have := h.2.2.2.2.1; omega)]
   refine Ev.congr (fun k => if_neg (by omega)) (Ev.now _)
 refine Ev.congr (fun k => if_pos (by omega)) ?_
 refine Ev.bind (rcmp_ev (vl m) (vl l) (by omega)) ?_
 refine Ev.same (Ev.now _) ?_
 by_cases c6 : vl m < vl l
 · rw [decide_eq_true (yer.2 c6), decide_eq_true ⟨by omega, by omega, by omega, by omega, by omega, c6⟩]
 · rw [decide_eq_false (fun h => c6 (yer.1 h)), decide_eq_false (fun h => c6 h.2.2.2.2.2)]
end Go.Proofs.Ytgnaaaliadiekaa.Q
end
