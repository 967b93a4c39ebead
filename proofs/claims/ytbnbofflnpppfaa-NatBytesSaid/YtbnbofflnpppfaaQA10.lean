/- Bytes as a number, the greatest first: the program's and the document's. -/
import Derived.Test.YtbnbofflnpppfaaBx0
import Derived.Test.YtbnbofflnpppfaaBx17
import Derived.Test.YtbnbofflnpppfaaBx2
import Derived.Test.YtbnbofflnpppfaaBx6
import Derived.Test.YtbnbofflnpppfaaQA9
namespace Go.Proofs.Ytbnbofflnpppfaa.Q
open Go.RowKit Go.Proofs.Ytbnbofflnpppfaa.B Go.Proofs.YtbnbofflnpppfaaW.PrintWords Go.Proofs.YtbnbofflnpppfaaW.PrintLast Go.Proofs.YtbnbofflnpppfaaW.PrintMore
set_option linter.unusedVariables false

abbrev L8 (l : List Int) : Prop := Dig 256 l
/-- bytes, the greatest first, as a number -/
def rv (l : List Int) : Nat := val 256 l.reverse
theorem rev_dig {l : List Int} (h : L8 l) : L8 l.reverse := fun x hx => h x (List.mem_reverse.1 hx)
theorem rv_lt {l : List Int} (h : L8 l) : rv l < 256 ^ l.length := by
  have := val_lt (B := 256) (by omega) (rev_dig h)
  rw [List.length_reverse] at this
  exact this
theorem getD_rev (l : List Int) (i : Nat) (h : i < l.length) : l.reverse.getD i 0 = l.getD (l.length - 1 - i) 0 := by
  rw [List.getD_eq_getElem?_getD, List.getD_eq_getElem?_getD, List.getElem?_reverse h]
theorem pow8 (i : Nat) : 256 ^ i = 18446744073709551616 ^ (i / 8) * 2 ^ (8 * (i % 8)) := by
  rw [pow64, ← Nat.pow_add, show (256 : Nat) = 2 ^ 8 from rfl, ← Nat.pow_mul]
  congr 1
  omega
theorem byte_num (u x r : Nat) (hx : x < 256) (hr : r < 8) (hu : u < 2 ^ (8 * r)) : x * 2 ^ (8 * r) < 18446744073709551616 ∧ u + x * 2 ^ (8 * r) < 18446744073709551616 ∧ u < 18446744073709551616 := by
  have h1 : (x + 1) * 2 ^ (8 * r) ≤ 256 * 2 ^ (8 * r) := Nat.mul_le_mul_right _ hx
  have h2 : 256 * 2 ^ (8 * r) = 2 ^ (8 * r + 8) := by rw [Nat.pow_add, Nat.mul_comm]
  have h3 : 2 ^ (8 * r + 8) ≤ 2 ^ 64 := Nat.pow_le_pow_right (by omega) (by omega)
  rw [Nat.add_mul, Nat.one_mul] at h1
  omega
theorem read_sum {B P V0 V1 u z : Nat} (h1 : V1 + P * u = V0 + P * (u + z)) : V1 = V0 + P * z := by
  rw [Nat.mul_add] at h1
  omega
theorem read_idx (i n d : Nat) (hd : i + (d + 1) = n) (hn : n ≤ 512) : wrap64 (Int.tdiv (i : Int) 8) = ((i / 8 : Nat) : Int) ∧ wrap64 (wrap64 ((n : Int) - 1) - (i : Int)) = ((n - 1 - i : Nat) : Int) ∧ wrap64 (8 * (Int.tmod (i : Int) 8)) = ((8 * (i % 8) : Nat) : Int) ∧ wrap64 ((i : Int) + 1) = ((i + 1 : Nat) : Int) ∧
    (i : Int) < (n : Int) ∧ ((n - 1 - i : Nat) : Int) < (n : Int) ∧ i / 8 < (n + 7) / 8 ∧ 8 * (i % 8) ≤ 64 ∧ i % 8 < 8 ∧ i < n ∧ i + 1 + d = n := by
  refine ⟨?_, ?_, ?_, w64 (by omega) (by omega), by omega, by omega, by omega, by omega, by omega, by omega, by omega⟩
  · rw [show Int.tdiv (i : Int) 8 = ((i / 8 : Nat) : Int) from tdiv_nat _ 8]
    exact w64 (by omega) (by omega)
  · rw [w64 (x := (n : Int) - 1) (by omega) (by omega), w64 (by omega) (by omega)]
    omega
  · rw [show Int.tmod (i : Int) 8 = ((i % 8 : Nat) : Int) from tmod_nat _ 8]
    exact w64 (by omega) (by omega)
theorem Read_loop (l : List Int) (hL : L8 l) (hl : l.length ≤ 512) : ∀ (d i : Nat) (out : List Int), i + d = l.length → out.length = (l.length + 7) / 8 → L64 out → vl out = low 256 l.reverse i →
    Ev (fun k => nat_Read.l0 k l out (l.length : Int) (i : Int)) (dg (rv l), 0) := by
  intro d
  induction d with
  | zero =>
    intro i out hd ho hO hv
    refine Ev.step (f := fun k => (nat_Norm.f k out).bind fun t => some (t, 0)) (fun k => ?_) ?_
    · simp only [nat_Read.l0]
      rw [if_neg (by omega)]
    · refine Ev.bind (Norm_ev hO (by omega)) (Ev.same (Ev.now _) ?_)
      rw [hv, low_all _ _ (by rw [List.length_reverse]; omega)]
      rfl
  | succ d IH =>
    intro i out hd ho hO hv
    obtain ⟨e1, e2, e3, e4, i1, i2, hil0, hi8, hr8, hi, hd1⟩ := read_idx i l.length d hd hl
    have hil : i / 8 < out.length := Nat.lt_of_lt_of_eq hil0 ho.symm
    have hR := rev_dig hL
    obtain ⟨x, hx, hx2⟩ := getD_nat (by omega) hR i
    have hx3 : l.getD (l.length - 1 - i) 0 = (x : Int) := by rw [← getD_rev l i hi]; exact hx
    have hlow : vl out < 18446744073709551616 ^ (i / 8) * 2 ^ (8 * (i % 8)) := by
      rw [hv, ← pow8]
      exact low_lt (by omega) hR i
    obtain ⟨u, hu, hu2⟩ := getD_nat (by omega) hO (i / 8)
    have hus : u < 2 ^ (8 * (i % 8)) := by
      have := digit_lt out (i / 8) (2 ^ (8 * (i % 8))) hO hlow
      rw [hu] at this
      exact Int.ofNat_lt.1 this
    obtain ⟨n1, n2, n3⟩ := byte_num u x (i % 8) hx2 hr8 hus
    have es := set_value (B := 18446744073709551616) out (i / 8) (u + x * 2 ^ (8 * (i % 8))) u hil hu
    have hstep := IH (i + 1) (out.set (i / 8) ((u + x * 2 ^ (8 * (i % 8)) : Nat) : Int)) hd1 (by rw [List.length_set]; exact ho) (Dig.set hO (Int.natCast_nonneg _) (Int.ofNat_lt.2 n2)) (by
      have e := read_sum (B := 0) es
      show val 18446744073709551616 _ = _
      rw [e]
      show vl out + _ = _
      rw [hv]
      simp only [low]
      rw [hx, Int.toNat_natCast, pow8]
      grind)
    have eshl : shl .u64 (x : Int) ((8 * (i % 8) : Nat) : Int) = ((x * 2 ^ (8 * (i % 8)) : Nat) : Int) := by rw [shl_nat x _ hi8, Nat.mod_eq_of_lt n1]
    have eor : Go.bits .or .u64 (u : Int) ((x * 2 ^ (8 * (i % 8)) : Nat) : Int) = ((u + x * 2 ^ (8 * (i % 8)) : Nat) : Int) := by
      rw [or_turn u _ n3 n1, orj _ u (8 * (i % 8)) n1 n3 (Nat.mul_mod_left _ _) hus, Nat.add_comm]
    have ex : IntKind.u64.wrap (x : Int) = (x : Int) := wk x (Nat.lt_trans hx2 (by decide))
    clear IH hv hlow es
    refine Ev.step (fun k => ?_) hstep
    simp only [nat_Read.l0]
    rw [if_pos i1, e1, if_pos (Int.natCast_nonneg _), if_pos (Int.ofNat_lt.2 hil), e2, if_pos (Int.natCast_nonneg _), if_pos i2, e3, if_pos (Int.natCast_nonneg _), rd_getD, rd_getD, hu, hx3, ex, eshl, eor, e4, Int.toNat_natCast]
theorem Read_ev {l : List Int} (hL : L8 l) (hl : l.length ≤ 512) : Ev (fun k => nat_Read.f k l) (dg (rv l), 0) := by
  have e : wrap64 (Int.tdiv (wrap64 ((l.length : Int) + 7)) 8) = (((l.length + 7) / 8 : Nat) : Int) := by
    rw [w64 (x := (l.length : Int) + 7) (by omega) (by omega), show (l.length : Int) + 7 = ((l.length + 7 : Nat) : Int) from rfl, show Int.tdiv ((l.length + 7 : Nat) : Int) 8 = (((l.length + 7) / 8 : Nat) : Int) from tdiv_nat _ 8]
    exact w64 (by omega) (by omega)
  unfold nat_Read.f
  rw [e]
  refine Ev.congr (fun k => (if_neg (by omega)).trans ((if_pos (by omega)).trans (if_pos (by rw [Int.toNat_natCast]; omega)))) ?_
  exact Read_loop l hL hl l.length 0 _ (by omega) (by rw [List.length_replicate, Int.toNat_natCast]) (Dig.zeros _ _ (by omega)) (by simp only [low]; exact val_zeros _ _)
theorem Read_no {l : List Int} (hl : 512 < l.length) : Ev (fun k => nat_Read.f k l) ([], 3) := by
  unfold nat_Read.f
  exact Ev.congr (fun k => if_pos (by omega)) (Ev.now _)
theorem wrap_byte (x : Nat) (h : x < 256) : wrap64 (x : Int) = (x : Int) := w64 (by omega) (by omega)
theorem byte_16 (u x : Nat) (hu : u < 256) (hx : x < 256) : u + 256 * x < 65536 := by omega
theorem byte_join (u x : Nat) (hu : u < 256) (hx : x < 256) : wrap64 ((u : Int) + wrap64 (256 * (x : Int))) = ((u + 256 * x : Nat) : Int) := by
  rw [w64 (x := 256 * (x : Int)) (by omega) (by omega), w64 (by omega) (by omega)]
  omega
theorem rread_idx (i n d o : Nat) (hd : i + (d + 1) = n) (hn : n < 1099511627776) (ho : o = (i + 1) / 2) : wrap64 (Int.tdiv (i : Int) 2) = ((i / 2 : Nat) : Int) ∧ wrap64 (wrap64 ((n : Int) - 1) - (i : Int)) = ((n - 1 - i : Nat) : Int) ∧ wrap64 ((i : Int) + 1) = ((i + 1 : Nat) : Int) ∧
    (i : Int) < (n : Int) ∧ ((n - 1 - i : Nat) : Int) < (n : Int) ∧ i < n ∧ i + 1 + d = n ∧ o < 17592186044416 ∧ (i % 2 = 0 → i = 2 * o) ∧ (i % 2 = 1 → i = 2 * (i / 2) + 1) ∧ (i % 2 = 0 → o + 1 = (i + 1 + 1) / 2) ∧ (i % 2 = 1 → i / 2 < o ∧ o = (i + 1 + 1) / 2) := by
  refine ⟨?_, ?_, w64 (by omega) (by omega), by omega, by omega, by omega, by omega, by omega, by omega, by omega, by omega, by omega⟩
  · rw [show Int.tdiv (i : Int) 2 = ((i / 2 : Nat) : Int) from tdiv_nat _ 2]
    exact w64 (by omega) (by omega)
  · rw [w64 (x := (n : Int) - 1) (by omega) (by omega), w64 (by omega) (by omega)]
    omega
theorem rRead_loop (l : List Int) (hL : L8 l) (hl : l.length < 1099511627776) : ∀ (d i : Nat) (out : List Int), i + d = l.length → out.length = (i + 1) / 2 → L16 out → vd out = low 256 l.reverse i →
    Ev (fun k => latchkeyref01_Read.l0 k l out (i : Int)) (dd (rv l)) := by
  intro d
  induction d with
  | zero =>
    intro i out hd ho hO hv
    refine Ev.step (f := fun k => (latchkeyref01_trim.f k out).bind fun t => some t) (fun k => ?_) ?_
    · simp only [latchkeyref01_Read.l0]
      rw [if_neg (by omega)]
    · refine Ev.bind (trim_ev hO (by omega)) (Ev.same (Ev.now _) ?_)
      rw [hv, low_all _ _ (by rw [List.length_reverse]; omega)]
      rfl
  | succ d IH =>
    intro i out hd ho hO hv
    obtain ⟨e1, e2, e4, i1, i2, hi, hd1, ho2, hoe, hoo, hor, hoq⟩ := rread_idx i l.length d out.length hd hl ho
    have em : Int.tmod (i : Int) 2 = ((i % 2 : Nat) : Int) := tmod_nat _ 2
    have hR := rev_dig hL
    obtain ⟨x, hx, hx2⟩ := getD_nat (by decide) hR i
    have hx3 : l.getD (l.length - 1 - i) 0 = (x : Int) := by rw [← getD_rev l i hi]; exact hx
    have ex : wrap64 (x : Int) = (x : Int) := wrap_byte x hx2
    rcases Nat.mod_two_eq_zero_or_one i with hp | hp
    · have ep : 256 ^ i = 65536 ^ out.length := by
        rw [show (65536 : Nat) = 256 ^ 2 from rfl, ← Nat.pow_mul, hoe hp]
      have hstep := IH (i + 1) (out ++ [(x : Int)]) hd1 (by rw [List.length_append, List.length_singleton]; exact hor hp) (Dig.append hO (Dig.cons (Int.natCast_nonneg _) (Int.ofNat_lt.2 (Nat.lt_trans hx2 (by decide))) (Dig.nil _))) (by
        unfold vd at hv ⊢
        rw [val_append, hv]
        simp only [low, val]
        rw [hx, ep, Int.toNat_natCast]
        simp)
      clear IH hv ep
      refine Ev.step (fun k => ?_) hstep
      simp only [latchkeyref01_Read.l0]
      rw [if_pos i1, em, hp, if_pos (show ((0 : Nat) : Int) = 0 from rfl), e2, if_pos (Int.natCast_nonneg _), if_pos i2, if_pos ho2, rd_getD, hx3, ex, e4]
    · have ep : 256 ^ i = 65536 ^ (i / 2) * 256 := by
        rw [show (65536 : Nat) = 256 ^ 2 from rfl, ← Nat.pow_mul, ← Nat.pow_succ]
        exact congrArg (256 ^ ·) (hoo hp)
      have hlow : vd out < 65536 ^ (i / 2) * 256 := by
        rw [hv, ← ep]
        exact low_lt (by decide) hR i
      obtain ⟨u, hu, hu2⟩ := getD_nat (by decide) hO (i / 2)
      have hus : u < 256 := by
        have := digit_lt out (i / 2) 256 hO hlow
        rw [hu] at this
        exact Int.ofNat_lt.1 this
      have hil : i / 2 < out.length := (hoq hp).1
      have es := set_value (B := 65536) out (i / 2) (u + 256 * x) u hil hu
      have hb16 : u + 256 * x < 65536 := byte_16 u x hus hx2
      have e5 : wrap64 ((u : Int) + wrap64 (256 * (x : Int))) = ((u + 256 * x : Nat) : Int) := byte_join u x hus hx2
      have hstep := IH (i + 1) (out.set (i / 2) ((u + 256 * x : Nat) : Int)) hd1 (by rw [List.length_set]; exact (hoq hp).2) (Dig.set hO (Int.natCast_nonneg _) (Int.ofNat_lt.2 hb16)) (by
        have e := read_sum (B := 0) es
        show val 65536 _ = _
        rw [e]
        show vd out + _ = _
        rw [hv]
        simp only [low]
        rw [hx, Int.toNat_natCast, ep, Nat.mul_assoc])
      clear IH hv ep hlow es
      refine Ev.step (fun k => ?_) hstep
      simp only [latchkeyref01_Read.l0]
      rw [if_pos i1, em, hp, if_neg (by decide), e1, if_pos (Int.natCast_nonneg _), if_pos (Int.ofNat_lt.2 hil), e2, if_pos (Int.natCast_nonneg _), if_pos i2, rd_getD, rd_getD, hu, hx3, ex, e5, e4, Int.toNat_natCast]
theorem rRead_ev {l : List Int} (hL : L8 l) (hl : l.length < 1099511627776) : Ev (fun k => latchkeyref01_Read.f k l) (dd (rv l)) := by
  unfold latchkeyref01_Read.f
  exact rRead_loop l hL hl l.length 0 [] (by omega) rfl (Dig.nil _) (by simp [low, vd, val])
theorem rv_fits {l : List Int} (hL : L8 l) (n : Nat) (hl : l.length ≤ 8 * n) : rv l < 18446744073709551616 ^ n := by
  refine Nat.lt_of_lt_of_le (rv_lt hL) ?_
  rw [pow64, show (256 : Nat) = 2 ^ 8 from rfl, ← Nat.pow_mul]
  exact Nat.pow_le_pow_right (by omega) (by omega)
theorem rv_small {l : List Int} (hL : L8 l) (hl : l.length ≤ 512) : rv l < 18446744073709551616 ^ 64 := rv_fits hL 64 hl
theorem wf_u8 {x : Int} (h : (Lit.int .u8 x).wf = true) : 0 ≤ x ∧ x < 256 := by
  simp [Lit.wf, IntKind.min, IntKind.max, IntKind.signed, IntKind.bits] at h
  omega
end Go.Proofs.Ytbnbofflnpppfaa.Q
