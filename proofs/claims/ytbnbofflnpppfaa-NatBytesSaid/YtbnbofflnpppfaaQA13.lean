/- A number as so many bytes, the greatest first: the program's and the document's. -/
import Derived.Test.YtbnbofflnpppfaaBx0
import Derived.Test.YtbnbofflnpppfaaBx6
import Derived.Test.YtbnbofflnpppfaaQA10
import Derived.Test.YtbnbofflnpppfaaQD3
namespace Go.Proofs.Ytbnbofflnpppfaa.Q
open Go.RowKit Go.Proofs.Ytbnbofflnpppfaa.B Go.Proofs.YtbnbofflnpppfaaW.PrintWords Go.Proofs.YtbnbofflnpppfaaW.PrintLast Go.Proofs.YtbnbofflnpppfaaW.PrintMore
set_option linter.unusedVariables false
set_option linter.unusedSimpArgs false

theorem digit_of {B : Nat} (hB : 0 < B) {l : List Int} (h : Dig B l) (q : Nat) : l.getD q 0 = ((val B l / B ^ q % B : Nat) : Int) := by
  obtain ⟨x, hx, hx2⟩ := getD_nat hB h q
  by_cases hq : q < l.length
  · have e := val_drop B l q hq
    rw [val_drop_div hB h q (Nat.le_of_lt hq), hx, Int.toNat_natCast] at e
    rw [hx, e, Nat.add_mul_mod_self_left, Nat.mod_eq_of_lt hx2]
  · have hl : val B l < B ^ q := Nat.lt_of_lt_of_le (val_lt hB h) (Nat.pow_le_pow_right hB (Nat.le_of_not_lt hq))
    rw [getD_zero (Nat.le_of_not_lt hq), Nat.div_eq_of_lt hl, Nat.zero_mod]
    rfl
/-- a byte of a digit -/
theorem byte_of (n c D : Nat) (hc : 0 < c) (hD : D % 256 = 0) : n % (c * D) / c % 256 = n / c % 256 := by
  rw [Nat.mod_mul_right_div_self]
  exact Nat.mod_mod_of_dvd _ (Nat.dvd_of_mod_eq_zero hD)
/-- the byte at a place -/
def by_ (n i : Nat) : Nat := n / 256 ^ i % 256
theorem byte64 (n i : Nat) : n / 18446744073709551616 ^ (i / 8) % 18446744073709551616 / 2 ^ (8 * (i % 8)) % 256 = by_ n i := by
  have hr : i % 8 < 8 := Nat.mod_lt _ (by decide)
  have e : 18446744073709551616 = 2 ^ (8 * (i % 8)) * 2 ^ (64 - 8 * (i % 8)) := by rw [← Nat.pow_add, Nat.add_sub_cancel' (by omega)]
  have h256 : 2 ^ (64 - 8 * (i % 8)) % 256 = 0 := by
    rw [show 64 - 8 * (i % 8) = 8 + (56 - 8 * (i % 8)) from by omega, Nat.pow_add]
    exact Nat.mul_mod_right _ _
  have key := byte_of (n / 18446744073709551616 ^ (i / 8)) (2 ^ (8 * (i % 8))) (2 ^ (64 - 8 * (i % 8))) (Nat.two_pow_pos _) h256
  rw [← e] at key
  rw [key, Nat.div_div_eq_div_mul, ← pow8]
  rfl
theorem byte16 (n i : Nat) : n / 65536 ^ (i / 2) % 65536 / 256 ^ (i % 2) % 256 = by_ n i := by
  have e2 : 65536 ^ (i / 2) * 256 ^ (i % 2) = 256 ^ i := by
    rw [show (65536 : Nat) = 256 ^ 2 from rfl, ← Nat.pow_mul, ← Nat.pow_add, Nat.div_add_mod]
  have e : 65536 = 256 ^ (i % 2) * 256 ^ (2 - i % 2) := by rw [← Nat.pow_add, Nat.add_sub_cancel' (by omega)]
  have h256 : 256 ^ (2 - i % 2) % 256 = 0 := by
    rw [show 2 - i % 2 = 1 + (1 - i % 2) from by omega, Nat.pow_add]
    exact Nat.mul_mod_right _ _
  have key := byte_of (n / 65536 ^ (i / 2)) (256 ^ (i % 2)) (256 ^ (2 - i % 2)) (Nat.pow_pos (by decide)) h256
  rw [← e] at key
  rw [key, Nat.div_div_eq_div_mul, e2]
  rfl
/-- so many bytes of a number, the greatest first -/
def bs (n size : Nat) : List Int := (List.range size).map fun k => ((by_ n (size - 1 - k) : Nat) : Int)
theorem bs_length (n size : Nat) : (bs n size).length = size := by simp [bs]
theorem bs_L (n size : Nat) : Dig 256 (bs n size) := by
  intro x hx
  obtain ⟨k, _, rfl⟩ := List.mem_map.1 hx
  exact ⟨Int.natCast_nonneg _, Int.ofNat_lt.2 (Nat.mod_lt _ (by decide))⟩
theorem bs_ext (n size : Nat) (l : List Int) (hl : l.length = size) (h : ∀ j, j < size → l.getD (size - 1 - j) 0 = ((by_ n j : Nat) : Int)) : l = bs n size := by
  refine List.ext_getElem (by rw [bs_length, hl]) (fun k h1 h2 => ?_)
  have hk : k < size := by omega
  have e := h (size - 1 - k) (by omega)
  rw [show size - 1 - (size - 1 - k) = k from by omega, List.getD_eq_getElem?_getD, List.getElem?_eq_getElem h1] at e
  simp only [bs, List.getElem_map, List.getElem_range]
  exact e
theorem bytes_idx (i n d : Nat) (hd : i + (d + 1) = n) (hn : n < 1099511627776) : wrap64 (Int.tdiv (i : Int) 8) = ((i / 8 : Nat) : Int) ∧ wrap64 (8 * (Int.tmod (i : Int) 8)) = ((8 * (i % 8) : Nat) : Int) ∧ wrap64 (wrap64 ((n : Int) - 1) - (i : Int)) = ((n - 1 - i : Nat) : Int) ∧ wrap64 ((i : Int) + 1) = ((i + 1 : Nat) : Int) ∧
    (i : Int) < (n : Int) ∧ ((n - 1 - i : Nat) : Int) < (n : Int) ∧ n - 1 - i < n ∧ 8 * (i % 8) ≤ 64 ∧ i + 1 + d = n ∧ (∀ j, j < i → n - 1 - i ≠ n - 1 - j) ∧ wrap64 (Int.tdiv (i : Int) 2) = ((i / 2 : Nat) : Int) := by
  refine ⟨?_, ?_, ?_, w64 (by omega) (by omega), by omega, by omega, by omega, by omega, by omega, fun j hj => by omega, ?_⟩
  · rw [show Int.tdiv (i : Int) 8 = ((i / 8 : Nat) : Int) from tdiv_nat _ 8]
    exact w64 (by omega) (by omega)
  · rw [show Int.tmod (i : Int) 8 = ((i % 8 : Nat) : Int) from tmod_nat _ 8]
    exact w64 (by omega) (by omega)
  · rw [w64 (x := (n : Int) - 1) (by omega) (by omega), w64 (by omega) (by omega)]
    omega
  · rw [show Int.tdiv (i : Int) 2 = ((i / 2 : Nat) : Int) from tdiv_nat _ 2]
    exact w64 (by omega) (by omega)
theorem set_next (out : List Int) (n size i : Nat) (hi : i < size) (ho : out.length = size) (hne : ∀ j, j < i → size - 1 - i ≠ size - 1 - j) (h : ∀ j, j < i → out.getD (size - 1 - j) 0 = ((by_ n j : Nat) : Int)) :
    ∀ j, j < i + 1 → (out.set (size - 1 - i) ((by_ n i : Nat) : Int)).getD (size - 1 - j) 0 = ((by_ n j : Nat) : Int) := by
  intro j hj
  rcases Nat.lt_or_eq_of_le (Nat.le_of_lt_succ hj) with h1 | h1
  · rw [getD_set_ne _ _ _ _ (hne j h1)]
    exact h j h1
  · subst h1
    exact getD_set_self _ _ _ (by omega)
theorem Bytes_loop (a : List Int) (hA : L64 a) (ha : a.length < 17592186044416) (size : Nat) (hs : size < 1099511627776) : ∀ (d i : Nat) (out : List Int), i + d = size → out.length = size → (∀ j, j < i → out.getD (size - 1 - j) 0 = ((by_ (vl a) j : Nat) : Int)) →
    Ev (fun k => nat_Bytes.l0 k a (size : Int) out (size : Int) (i : Int)) (bs (vl a) size, true) := by
  intro d
  induction d with
  | zero =>
    intro i out hd ho h
    refine Ev.succ ?_
    simp only [nat_Bytes.l0]
    refine Ev.congr (fun k => if_neg (by omega)) (Ev.same (Ev.now _) ?_)
    rw [bs_ext (vl a) size out ho (fun j hj => h j (by omega))]
  | succ d IH =>
    intro i out hd ho h
    obtain ⟨e1, e2, e3, e4, c1, c2, c3, c4, hd1, hne, _⟩ := bytes_idx i size d hd hs
    have c2' : ((size - 1 - i : Nat) : Int) < (out.length : Int) := by rw [ho]; exact c2
    have hdig : a.getD (i / 8) 0 = ((vl a / 18446744073709551616 ^ (i / 8) % 18446744073709551616 : Nat) : Int) := digit_of (by decide) hA _
    have hb : shr .u64 ((vl a / 18446744073709551616 ^ (i / 8) % 18446744073709551616 : Nat) : Int) ((8 * (i % 8) : Nat) : Int) % 256 = ((by_ (vl a) i : Nat) : Int) := by
      rw [shr_nat _ _ c4, ← byte64]
      rfl
    refine Ev.succ ?_
    simp only [nat_Bytes.l0, if_pos c1, e1, limb_some ha, hdig, Option.bind_some, e2, if_pos (Int.natCast_nonneg (8 * (i % 8))), e3, if_pos (Int.natCast_nonneg (size - 1 - i)), if_pos c2', hb, e4, Int.toNat_natCast]
    exact IH (i + 1) _ hd1 (by rw [List.length_set]; exact ho) (set_next out (vl a) size i (Int.ofNat_lt.1 c1) ho hne h)
theorem Bytes_no {a : List Int} (size : Int) (h : size < 0 ∨ 512 < size) : Ev (fun k => nat_Bytes.f k a size) ([], false) := by
  have out : Ev (fun k => nat_Bytes.j0 k a size true) ([], false) := by
    refine Ev.succ ?_
    simp only [nat_Bytes.j0, if_true]
    exact Ev.now _
  unfold nat_Bytes.f
  by_cases h0 : size < 0
  · exact Ev.congr (fun k => if_pos h0) out
  · exact Ev.congr (fun k => (if_neg h0).trans (if_pos (by omega))) out
theorem Bytes_more {a : List Int} (hA : L64 a) (ha : a.length < 1099511627776) (size : Nat) (hs : size ≤ 512) (h : 8 * size < bl (vl a)) : Ev (fun k => nat_Bytes.f k a (size : Int)) ([], false) := by
  have out : Ev (fun k => nat_Bytes.j0 k a (size : Int) true) ([], false) := by
    refine Ev.succ ?_
    simp only [nat_Bytes.j0, if_true]
    exact Ev.now _
  unfold nat_Bytes.f
  refine Ev.congr (fun k => (if_neg (by omega)).trans (if_neg (by omega))) ?_
  refine Ev.bind (Len_ev hA ha) ?_
  have ew : wrap64 (8 * (size : Int)) = ((8 * size : Nat) : Int) := w64 (by omega) (by omega)
  rw [ew, decide_eq_true (show ((bl (vl a) : Nat) : Int) > ((8 * size : Nat) : Int) from Int.ofNat_lt.2 h)]
  exact out
theorem Bytes_ev {a : List Int} (hA : L64 a) (ha : a.length < 1099511627776) (size : Nat) (hs : size ≤ 512) (h : bl (vl a) ≤ 8 * size) : Ev (fun k => nat_Bytes.f k a (size : Int)) (bs (vl a) size, true) := by
  unfold nat_Bytes.f
  refine Ev.congr (fun k => (if_neg (by omega)).trans (if_neg (by omega))) ?_
  refine Ev.bind (Len_ev hA ha) ?_
  have ew : wrap64 (8 * (size : Int)) = ((8 * size : Nat) : Int) := w64 (by omega) (by omega)
  rw [ew, decide_eq_false (show ¬ ((bl (vl a) : Nat) : Int) > ((8 * size : Nat) : Int) from fun h2 => Nat.lt_irrefl _ (Nat.lt_of_lt_of_le (Int.ofNat_lt.1 h2) h))]
  refine Ev.succ ?_
  simp only [nat_Bytes.j0]
  refine Ev.congr (fun k => (if_neg (by decide)).trans ((if_pos (Int.natCast_nonneg _)).trans (if_pos (by rw [Int.toNat_natCast]; omega)))) ?_
  rw [Int.toNat_natCast]
  exact Bytes_loop a hA (by omega) size (by omega) size 0 _ (by omega) List.length_replicate (fun j hj => absurd hj (Nat.not_lt_zero j))
end Go.Proofs.Ytbnbofflnpppfaa.Q
