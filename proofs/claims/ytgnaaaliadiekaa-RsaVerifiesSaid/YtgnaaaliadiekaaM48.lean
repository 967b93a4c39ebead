/- A part of the proof (merged by pack.py, a program of this session: what the row's proof names). -/
import Derived.Test.YtgnaaaliadiekaaM4
import Derived.Test.YtgnaaaliadiekaaM5
import Derived.Test.YtgnaaaliadiekaaM6
import Derived.Test.YtgnaaaliadiekaaM11
import Derived.Test.YtgnaaaliadiekaaM18
import Derived.Test.YtgnaaaliadiekaaM22
import Derived.Test.YtgnaaaliadiekaaM25
import Derived.Test.YtgnaaaliadiekaaM33
import Derived.Test.YtgnaaaliadiekaaM34
import Derived.Test.YtgnaaaliadiekaaM44
import Derived.Test.YtgnaaaliadiekaaM47
import Derived.Test.YtgnaaaliadiekaaM0
import Derived.Laws.Bits64b
section
namespace Go.Proofs.Ytgnaaaliadiekaa.Q
open Go.RowKit Go.Proofs.Ytgnaaaliadiekaa.B Go.Proofs.YtgnaaaliadiekaaW.PrintWords Go.Proofs.YtgnaaaliadiekaaW.PrintLast Go.Proofs.YtgnaaaliadiekaaW.PrintMore
set_option linter.unusedVariables false
set_option linter.unusedSimpArgs false
theorem val_bit {B e : Nat} (hB : B = 2 ^ e) {l : List Int} (h : Dig B l) (q s : Nat) (hs : s < e) : val B l / 2 ^ (e * q + s) % 2 = (l.getD q 0).toNat / 2 ^ s % 2 := by
 have hp : 0 < B := by rw [hB]; exact Nat.two_pow_pos e
 rw [Nat.pow_add, Nat.pow_mul, ← hB, ← Nat.div_div_eq_div_mul]
 by_cases hq : q < l.length
 · rw [← ygp hp h q (Nat.le_of_lt hq), ygg B l q hq, hB, show 2 ^ e = 2 ^ s * 2 ^ (e - s) from by rw [← Nat.pow_add]; congr 1; omega, Nat.mul_assoc, Nat.add_mul_div_left _ _ (Nat.two_pow_pos s)]
   rw [show e - s = (e - s - 1) + 1 from by omega, Nat.pow_succ, Nat.mul_assoc, Nat.mul_comm (2 ^ (e - s - 1)), Nat.mul_assoc, Nat.add_mul_mod_self_left]
 · rw [List.getD_eq_getElem?_getD, List.getElem?_eq_none (by omega), Nat.div_eq_of_lt (Nat.lt_of_lt_of_le (ygo hp h) (Nat.pow_le_pow_right hp (by omega)))]
   simp
theorem bitOf_nat {zs : List Int} (hZ : L64 zs) (i : Nat) : bitOf zs i = (vl zs / 2 ^ i % 2 == 1) := by
 have hb := val_bit (B := 18446744073709551616) (e := 64) rfl hZ (i / 64) (i % 64) (Nat.mod_lt _ (by decide))
 rw [Nat.div_add_mod] at hb
 obtain ⟨x, hx, hx2⟩ := yct (by decide) hZ (i / 64)
 unfold bitOf
 rw [show ((i : Int) / 64) = ((i / 64 : Nat) : Int) from rfl, ycp, hx, show ((x : Int) / 2 ^ (i % 64)) = ((x / 2 ^ (i % 64) : Nat) : Int) from by simp]
 have h1 := bits_and_u64_nat (x / 2 ^ (i % 64)) 1 (Nat.lt_of_le_of_lt (Nat.div_le_self _ _) hx2) (by decide)
 rw [show ((1 : Nat) : Int) = 1 from rfl] at h1
 rw [h1, Nat.and_one_is_mod]
 unfold vl
 rw [hb, hx, Int.toNat_natCast]
 generalize x / 2 ^ (i % 64) % 2 = b
 rw [Bool.eq_iff_iff, beq_iff_eq, beq_iff_eq]
 omega
theorem Ev_below {α : Type} {g : Nat → Nat → Option α} {r : Nat → α} : ∀ M : Nat, (∀ x, x < M → Ev (g x) (r x)) → ∃ K, ∀ k, K ≤ k → ∀ x, x < M → g x k = some (r x)
 | 0, _ => ⟨0, fun _ _ x hx => absurd hx (Nat.not_lt_zero x)⟩
 | M + 1, h => by
  obtain ⟨K, hK⟩ := Ev_below M (fun x hx => h x (by omega))
  obtain ⟨K2, hK2⟩ := h M (by omega)
  refine ⟨max K K2, fun k hk x hx => ?_⟩
  by_cases e : x = M
  · subst e
    exact hK2 k (by omega)
  · exact hK k (by omega) x (by omega)
def pstep (A M x : Nat) (b : Bool) : Nat := if b = true then x * x % M * A % M else x * x % M
theorem pstep_lt {A M x : Nat} {b : Bool} (h : 0 < M) : pstep A M x b < M := by
 unfold pstep
 split <;> exact Nat.mod_lt _ h
theorem mstep_ev {a m : List Int} (hA : L64 a) (hM : L64 m) (ha : a.length < 134217728) (hm : m.length < 67108864) (h0 : 0 < vl m) (x : Nat) (hx : x < vl m) (b : Bool) : Ev (fun k => yax.step k a m (dg x) b) (dg (pstep (vl a) (vl m) x b)) := by
 have lx : (dg x).length ≤ m.length := fits_of_le (Nat.le_of_lt hx) (yim hM)
 have g1 := mMul_ev (dg_L x) (dg_L x) hM (by omega) (by omega) (by omega) h0
 rw [yfj] at g1
 have l2 := mod_fits hM h0 (x * x)
 have g2 := mMul_ev (dg_L (x * x % vl m)) hA hM (by omega) (by omega) (by omega) h0
 rw [yfj] at g2
 unfold yax.step
 refine Ev.bind g1 ?_
 cases b with
 | false => exact Ev.congr (fun k => if_neg (by decide)) (Ev.now _)
 | true => exact Ev.congr (fun k => if_pos rfl) (Ev.bind g2 (Ev.now _))
theorem pow_bit (A M N i : Nat) : pstep A M (A ^ (N / 2 ^ (i + 1)) % M) (N / 2 ^ i % 2 == 1) = A ^ (N / 2 ^ i) % M := by
 have e : N / 2 ^ (i + 1) = N / 2 ^ i / 2 := by rw [Nat.pow_succ, Nat.div_div_eq_div_mul]
 rw [e]
 generalize N / 2 ^ i = n
 have h2 : A ^ (n / 2) % M * (A ^ (n / 2) % M) % M = A ^ (2 * (n / 2)) % M := by rw [← Nat.mul_mod, ← Nat.pow_add, Nat.two_mul]
 unfold pstep
 rw [h2]
 rcases Nat.mod_two_eq_zero_or_one n with h | h
 · rw [if_neg (by rw [h]; decide), show 2 * (n / 2) = n from by omega]
 · rw [if_pos (by rw [h]; rfl), Nat.mod_mul_mod, ← Nat.pow_succ, show (2 * (n / 2)).succ = n from by omega]
theorem fold_bits {k : Nat} {a m zs : List Int} (hZ : L64 zs) (A M L : Nat) (hM : 0 < M) (hst : ∀ x, x < M → ∀ b, yax.step k a m (dg x) b = some (dg (pstep A M x b))) (hL : vl zs < 2 ^ L) : ∀ j, j ≤ L → yax.fold k a m (upto (bitsOf zs L) j) (dg (1 % M)) = some (dg (A ^ (vl zs / 2 ^ (L - j)) % M))
 | 0, _ => by
  rw [Nat.sub_zero, Nat.div_eq_of_lt hL]
  rfl
 | j + 1, hj => by
  rw [upto_succ]
  refine yax.fold_snoc k a m _ _ _ _ _ (fold_bits hZ A M L hM hst hL j (by omega)) ?_
  rw [hst _ (Nat.mod_lt _ hM)]
  show some (dg (pstep A M (A ^ (vl zs / 2 ^ (L - j)) % M) (bitOf zs (L - 1 - j)))) = _
  rw [bitOf_nat hZ, show L - j = (L - 1 - j) + 1 from by omega, pow_bit, show L - (j + 1) = L - 1 - j from by omega]
theorem rounds_ev {a m zs : List Int} (hA : L64 a) (hM : L64 m) (hZ : L64 zs) (ha : a.length < 134217728) (hm : m.length < 67108864) (hz : zs.length < 1073741824) (h0 : 0 < vl m) : Ev (fun k => yax.rounds k a m (dg (1 % vl m)) zs (bl (vl zs) : Int)) (dg (vl a ^ vl zs % vl m)) := by
 obtain ⟨K1, hK1⟩ := Ev_below (g := fun x k => yax.step k a m (dg x) false) (r := fun x => dg (pstep (vl a) (vl m) x false)) (vl m) (fun x hx => mstep_ev hA hM ha hm h0 x hx false)
 obtain ⟨K2, hK2⟩ := Ev_below (g := fun x k => yax.step k a m (dg x) true) (r := fun x => dg (pstep (vl a) (vl m) x true)) (vl m) (fun x hx => mstep_ev hA hM ha hm h0 x hx true)
 refine ⟨max K1 K2, fun k hk => ?_⟩
 have hst : ∀ x, x < vl m → ∀ b, yax.step k a m (dg x) b = some (dg (pstep (vl a) (vl m) x b)) := by
  intro x hx b
  cases b with
  | false => exact hK1 k (by omega) x hx
  | true => exact hK2 k (by omega) x hx
 have hbl : bl (vl zs) ≤ 64 * zs.length := yge.2 (by rw [← pow64]; exact yim hZ)
 show yax.rounds k a m (dg (1 % vl m)) zs (bl (vl zs) : Int) = _
 unfold yax.rounds
 rw [if_pos ⟨by omega, Int.natCast_nonneg _, by omega, yax.ok_of (fun o => ∃ x, x < vl m ∧ o = dg x) (by
  rintro o b ⟨x, hx, rfl⟩
  exact ⟨_, hst x hx b, _, pstep_lt h0, rfl⟩) _ _ ⟨_, Nat.mod_lt _ h0, rfl⟩⟩]
 rw [Int.toNat_natCast, fold_bits hZ (vl a) (vl m) _ h0 hst (lt_bl _) _ (Nat.le_refl _), Nat.sub_self, Nat.pow_zero, Nat.div_one]
theorem mPow_ev {a n m : List Int} (hA : L64 a) (hN : L64 n) (hM : L64 m) (ha : a.length < 134217728) (hn : n.length < 1073741824) (hm : m.length < 67108864) (h0 : 0 < vl m) : Ev (fun k => yax.f k a n m) (dg (vl a ^ vl n % vl m), 0) := by
 unfold yax.f
 refine Ev.bind (mOf_ev hA hM (by omega) (by omega) h0) ?_
 refine Ev.congr (fun k => if_pos rfl) ?_
 refine Ev.bind (Of_ev (by decide) (by decide)) ?_
 have d1 : (dg (1 : Int).toNat).length ≤ 1 := dg_fits (k := 1) (by decide)
 have g1 := mOf_ev (dg_L (1 : Int).toNat) hM (by omega) (by omega) h0
 rw [yfj] at g1
 refine Ev.bind g1 ?_
 refine Ev.bind (Len_ev hN (by omega)) ?_
 have l1 := mod_fits hM h0 (vl a)
 have g2 := rounds_ev (dg_L (vl a % vl m)) hM hN (by omega) hm hn h0
 rw [yfj, ← Nat.pow_mod] at g2
 exact Ev.bind g2 (Ev.now _)
theorem rBit_eq (n i : Nat) (hn : (dd n).length < 1073741824) (hi : i < 1152921504606846976) : ydc.f (dd n) (i : Int) = some ((n / 2 ^ i % 2 : Nat) : Int) := by
 have hb := val_bit (B := 65536) (e := 16) rfl (dd_L n) (i / 16) (i % 16) (Nat.mod_lt _ (by decide))
 rw [Nat.div_add_mod] at hb
 have hv : val 65536 (dd n) = n := ygm n
 rw [hv] at hb
 obtain ⟨x, hx, hx2⟩ := yct (by decide) (dd_L n) (i / 16)
 have e1 : wrap64 (Int.tdiv (i : Int) 16) = ((i / 16 : Nat) : Int) := by
  rw [show Int.tdiv (i : Int) 16 = ((i / 16 : Nat) : Int) from rfl, w64 (by omega) (by omega)]
 have e2 : Int.tmod (i : Int) 16 = ((i % 16 : Nat) : Int) := rfl
 unfold ydc.f
 rw [e1, e2, ycp, hx]
 by_cases h : (dd n).length ≤ i / 16
 · rw [if_pos (by omega)]
   have hz : (x : Int) = 0 := by rw [← hx, List.getD_eq_getElem?_getD, List.getElem?_eq_none h]; rfl
   rw [hx, hz] at hb
   rw [hb]
   simp
 · rw [if_neg (by omega), if_pos (by omega), if_pos (by omega), if_pos (by omega)]
   have e3 : shr .i64 (x : Int) ((i % 16 : Nat) : Int) = ((x / 2 ^ (i % 16) : Nat) : Int) := by
    unfold shr
    rw [Int.toNat_natCast, Nat.min_eq_left (by show i % 16 ≤ 64; omega)]
    simp
   rw [e3, show Int.tmod ((x / 2 ^ (i % 16) : Nat) : Int) 2 = ((x / 2 ^ (i % 16) % 2 : Nat) : Int) from rfl, hb, hx, Int.toNat_natCast]
theorem dd_mod {x M : Nat} (h : 0 < M) : (dd (x % M)).length ≤ (dd M).length := ygt (Nat.le_of_lt (Nat.mod_lt _ h))
theorem dd_mul (x y : Nat) : (dd (x * y)).length ≤ (dd x).length + (dd y).length := yft.2 (by rw [Nat.pow_add]; exact Nat.mul_lt_mul'' (yft.1 (Nat.le_refl _)) (yft.1 (Nat.le_refl _)))
theorem rPow_loop (A N M : Nat) (hA : (dd A).length < 134217728) (hN : (dd N).length < 67108864) (hM : (dd M).length < 134217728) (h0 : 0 < M) : ∀ j, j ≤ bl N → Ev (fun k => ybh.l0 k (dd A) (dd N) (dd M) (dd (A ^ (N / 2 ^ j) % M)) ((j : Int) - 1)) (dd (A ^ N % M))
 | 0, _ => by
  refine Ev.succ ?_
  simp only [ybh.l0]
  refine Ev.congr (fun k => if_neg (by omega)) ?_
  rw [Nat.pow_zero, Nat.div_one]
  exact Ev.now _
 | j + 1, hj => by
  have ih := rPow_loop A N M hA hN hM h0 j (by omega)
  rw [← pow_bit] at ih
  have hbl : bl N ≤ 16 * (dd N).length := yge.2 (by rw [← pow16]; exact yft.1 (Nat.le_refl _))
  generalize hx : A ^ (N / 2 ^ (j + 1)) % M = x at ih
  have hxM : x < M := by rw [← hx]; exact Nat.mod_lt _ h0
  have lx := ygt (Nat.le_of_lt hxM)
  have e0 : ((j + 1 : Nat) : Int) - 1 = (j : Int) := by omega
  have e1 : wrap64 ((j : Int) - 1) = (j : Int) - 1 := w64 (by omega) (by omega)
  rw [e0]
  refine Ev.succ ?_
  simp only [ybh.l0]
  rw [e1]
  refine Ev.congr (fun k => if_pos (by omega)) ?_
  have l1 := dd_mul x x
  have l2 := dd_mod (x := x * x) h0
  refine Ev.bind (rMul_ev x x (by omega) (by omega)) ?_
  refine Ev.bind (rMod_ev (x * x) M (by omega) (by omega) h0) ?_
  refine Ev.bind (Ev.congr (fun k => rBit_eq N j (by omega) (by omega)) (Ev.now _)) ?_
  unfold pstep at ih
  rcases Nat.mod_two_eq_zero_or_one (N / 2 ^ j) with h | h
  · rw [if_neg (by rw [h]; decide)] at ih
    refine Ev.congr (fun k => if_neg (by rw [h]; decide)) ?_
    exact ih
  · rw [if_pos (by rw [h]; rfl)] at ih
    refine Ev.congr (fun k => if_pos (by rw [h]; rfl)) ?_
    have l3 := dd_mul (x * x % M) A
    refine Ev.bind (rMul_ev (x * x % M) A (by omega) (by omega)) ?_
    refine Ev.bind (rMod_ev (x * x % M * A) M (by omega) (by omega) h0) ?_
    exact ih
theorem rPow_ev (A N M : Nat) (hA : (dd A).length < 134217728) (hN : (dd N).length < 67108864) (hM : (dd M).length < 134217728) (h0 : 0 < M) : Ev (fun k => ybh.f k (dd A) (dd N) (dd M)) (dd (A ^ N % M)) := by
 unfold ybh.f
 have d1 : (dd 1).length ≤ 4 := dd_len63 (by decide)
 refine Ev.bind (Small_ev 1 (by decide)) ?_
 refine Ev.bind (rMod_ev 1 M (by omega) (by omega) h0) ?_
 refine Ev.bind (rLen_ev (by omega)) ?_
 have hbl : bl N ≤ 16 * (dd N).length := yge.2 (by rw [← pow16]; exact yft.1 (Nat.le_refl _))
 have h := rPow_loop A N M hA hN hM h0 (bl N) (Nat.le_refl _)
 rw [Nat.div_eq_of_lt (lt_bl N), Nat.pow_zero] at h
 rw [show wrap64 ((bl N : Int) - 1) = (bl N : Int) - 1 from w64 (by omega) (by omega)]
 exact h
end Go.Proofs.Ytgnaaaliadiekaa.Q
end
section
namespace Go.Proofs.Ytgnaaaliadiekaa.Q
open Go.RowKit Go.Proofs.Ytgnaaaliadiekaa.B Go.Proofs.YtgnaaaliadiekaaW.PrintWords Go.Proofs.YtgnaaaliadiekaaW.PrintLast Go.Proofs.YtgnaaaliadiekaaW.PrintMore
set_option linter.unusedVariables false
abbrev L8 (l : List Int) : Prop := Dig 256 l
def rv (l : List Int) : Nat := val 256 l.reverse
theorem rev_dig {l : List Int} (h : L8 l) : L8 l.reverse := fun x hx => h x (List.mem_reverse.1 hx)
theorem rv_lt {l : List Int} (h : L8 l) : rv l < 256 ^ l.length := by
 have := ygo (B := 256) (by omega) (rev_dig h)
 rw [List.length_reverse] at this
 exact this
theorem getD_rev (l : List Int) (i : Nat) (h : i < l.length) : l.reverse.getD i 0 = l.getD (l.length - 1 - i) 0 := by
 rw [List.getD_eq_getElem?_getD, List.getD_eq_getElem?_getD, List.getElem?_reverse h]
theorem pow8 (i : Nat) : 256 ^ i = 18446744073709551616 ^ (i / 8) * 2 ^ (8 * (i % 8)) := by
 rw [pow64, ← Nat.pow_add, show (256 : Nat) = 2 ^ 8 from rfl, ← Nat.pow_mul]
 congr 1
 omega
theorem byte_num (u x r : Nat) (hx : x < 256) (hr : r < 8) (hu : u < 2 ^ (8 * r)) : x * 2 ^ (8 * r) < 18446744073709551616 ∧ u + x * 2 ^ (8 * r) < 18446744073709551616 ∧ u < 18446744073709551616 := by
 have h1 : (x + 1) * 2 ^ (8 * r) ≤ 256 * 2 ^ (8 * r) := Nat.mul_le_mul_right _ hx
 have h2 : 256 * 2 ^ (8 * r) = 2 ^ (8 * r + 8) := by rw [Nat.pow_add, Nat.mul_comm]
 have h3 : 2 ^ (8 * r + 8) ≤ 2 ^ 64 := Nat.pow_le_pow_right (by omega) (by omega)
 rw [Nat.add_mul, Nat.one_mul] at h1
 omega
theorem read_sum {B P V0 V1 u z : Nat} (h1 : V1 + P * u = V0 + P * (u + z)) : V1 = V0 + P * z := by
 rw [Nat.mul_add] at h1
 omega
theorem read_idx (i n d : Nat) (hd : i + (d + 1) = n) (hn : n ≤ 512) : wrap64 (Int.tdiv (i : Int) 8) = ((i / 8 : Nat) : Int) ∧ wrap64 (wrap64 ((n : Int) - 1) - (i : Int)) = ((n - 1 - i : Nat) : Int) ∧ wrap64 (8 * (Int.tmod (i : Int) 8)) = ((8 * (i % 8) : Nat) : Int) ∧ wrap64 ((i : Int) + 1) = ((i + 1 : Nat) : Int) ∧
 (i : Int) < (n : Int) ∧ ((n - 1 - i : Nat) : Int) < (n : Int) ∧ i / 8 < (n + 7) / 8 ∧ 8 * (i % 8) ≤ 64 ∧ i % 8 < 8 ∧ i < n ∧ i + 1 + d = n := by
 refine ⟨?_, ?_, ?_, w64 (by omega) (by omega), by omega, by omega, by omega, by omega, by omega, by omega, by omega⟩
 · rw [show Int.tdiv (i : Int) 8 = ((i / 8 : Nat) : Int) from yed _ 8]
   exact w64 (by omega) (by omega)
 · rw [w64 (x := (n : Int) - 1) (by omega) (by omega), w64 (by omega) (by omega)]
   omega
 · rw [show Int.tmod (i : Int) 8 = ((i % 8 : Nat) : Int) from yfe _ 8]
   exact w64 (by omega) (by omega)
theorem Read_loop (l : List Int) (hL : L8 l) (hl : l.length ≤ 512) : ∀ (d i : Nat) (out : List Int), i + d = l.length → out.length = (l.length + 7) / 8 → L64 out → vl out = low 256 l.reverse i →
 Ev (fun k => ycv.l0 k l out (l.length : Int) (i : Int)) (dg (rv l), 0) := by
 intro d
 induction d with
 | zero =>
  intro i out hd ho hO hv
  refine Ev.step (f := fun k => (ybr.f k out).bind fun t => some (t, 0)) (fun k => ?_) ?_
  · simp only [ycv.l0]
    rw [if_neg (by omega)]
  · refine Ev.bind (yfw hO (by omega)) (Ev.same (Ev.now _) ?_)
    rw [hv, ydv _ _ (by rw [List.length_reverse]; omega)]
    rfl
 | succ d IH =>
  intro i out hd ho hO hv
  obtain ⟨e1, e2, e3, e4, i1, i2, hil0, hi8, hr8, hi, hd1⟩ := read_idx i l.length d hd hl
  have hil : i / 8 < out.length := Nat.lt_of_lt_of_eq hil0 ho.symm
  have hR := rev_dig hL
  obtain ⟨x, hx, hx2⟩ := yct (by omega) hR i
  have hx3 : l.getD (l.length - 1 - i) 0 = (x : Int) := by rw [← getD_rev l i hi]; exact hx
  have hlow : vl out < 18446744073709551616 ^ (i / 8) * 2 ^ (8 * (i % 8)) := by
   rw [hv, ← pow8]
   exact yfp (by omega) hR i
  obtain ⟨u, hu, hu2⟩ := yct (by omega) hO (i / 8)
  have hus : u < 2 ^ (8 * (i % 8)) := by
   have := digit_lt out (i / 8) (2 ^ (8 * (i % 8))) hO hlow
   rw [hu] at this
   exact Int.ofNat_lt.1 this
  obtain ⟨n1, n2, n3⟩ := byte_num u x (i % 8) hx2 hr8 hus
  have es := yea (B := 18446744073709551616) out (i / 8) (u + x * 2 ^ (8 * (i % 8))) u hil hu
  have hstep := IH (i + 1) (out.set (i / 8) ((u + x * 2 ^ (8 * (i % 8)) : Nat) : Int)) hd1 Z29_ (Dig.set hO (Int.natCast_nonneg _) (Int.ofNat_lt.2 n2)) (by
   have e := read_sum (B := 0) es
   show val 18446744073709551616 _ = _
   rw [e]
   show vl out + _ = _
   rw [hv]
   simp only [low]
   rw [hx, Int.toNat_natCast, pow8]
   grind)
  have eshl : shl .u64 (x : Int) ((8 * (i % 8) : Nat) : Int) = ((x * 2 ^ (8 * (i % 8)) : Nat) : Int) := by rw [yht x _ hi8, Nat.mod_eq_of_lt n1]
  have eor : Go.bits .or .u64 (u : Int) ((x * 2 ^ (8 * (i % 8)) : Nat) : Int) = ((u + x * 2 ^ (8 * (i % 8)) : Nat) : Int) := by
   rw [or_turn u _ n3 n1, orj _ u (8 * (i % 8)) n1 n3 (Nat.mul_mod_left _ _) hus, Nat.add_comm]
  have ex : IntKind.u64.wrap (x : Int) = (x : Int) := wk x (Nat.lt_trans hx2 (by decide))
  clear IH hv hlow es
  refine Ev.step (fun k => ?_) hstep
  simp only [ycv.l0]
  rw [if_pos i1, e1, if_pos (Int.natCast_nonneg _), if_pos (Int.ofNat_lt.2 hil), e2, if_pos (Int.natCast_nonneg _), if_pos i2, e3, if_pos (Int.natCast_nonneg _), ycp, ycp, hu, hx3, ex, eshl, eor, e4, Int.toNat_natCast]
theorem Read_ev {l : List Int} (hL : L8 l) (hl : l.length ≤ 512) : Ev (fun k => ycv.f k l) (dg (rv l), 0) := by
 have e : wrap64 (Int.tdiv (wrap64 ((l.length : Int) + 7)) 8) = (((l.length + 7) / 8 : Nat) : Int) := by
  rw [w64 (x := (l.length : Int) + 7) (by omega) (by omega), show (l.length : Int) + 7 = ((l.length + 7 : Nat) : Int) from rfl, show Int.tdiv ((l.length + 7 : Nat) : Int) 8 = (((l.length + 7) / 8 : Nat) : Int) from yed _ 8]
  exact w64 (by omega) (by omega)
 unfold ycv.f
 rw [e]
 refine Ev.congr (fun k => (if_neg (by omega)).trans ((if_pos (by omega)).trans (if_pos (by rw [Int.toNat_natCast]; omega)))) ?_
 exact Read_loop l hL hl l.length 0 _ (by omega) (by rw [List.length_replicate, Int.toNat_natCast]) (Dig.zeros _ _ (by omega)) (by simp only [low]; exact ygn _ _)
theorem wrap_byte (x : Nat) (h : x < 256) : wrap64 (x : Int) = (x : Int) := w64 (by omega) (by omega)
theorem byte_16 (u x : Nat) (hu : u < 256) (hx : x < 256) : u + 256 * x < 65536 := by omega
theorem byte_join (u x : Nat) (hu : u < 256) (hx : x < 256) : wrap64 ((u : Int) + wrap64 (256 * (x : Int))) = ((u + 256 * x : Nat) : Int) := by
 rw [w64 (x := 256 * (x : Int)) (by omega) (by omega), w64 (by omega) (by omega)]
 omega
theorem rread_idx (i n d o : Nat) (hd : i + (d + 1) = n) (hn : n < 1099511627776) (ho : o = (i + 1) / 2) : wrap64 (Int.tdiv (i : Int) 2) = ((i / 2 : Nat) : Int) ∧ wrap64 (wrap64 ((n : Int) - 1) - (i : Int)) = ((n - 1 - i : Nat) : Int) ∧ wrap64 ((i : Int) + 1) = ((i + 1 : Nat) : Int) ∧
 (i : Int) < (n : Int) ∧ ((n - 1 - i : Nat) : Int) < (n : Int) ∧ i < n ∧ i + 1 + d = n ∧ o < 17592186044416 ∧ (i % 2 = 0 → i = 2 * o) ∧ (i % 2 = 1 → i = 2 * (i / 2) + 1) ∧ (i % 2 = 0 → o + 1 = (i + 1 + 1) / 2) ∧ (i % 2 = 1 → i / 2 < o ∧ o = (i + 1 + 1) / 2) := by
 refine ⟨?_, ?_, w64 (by omega) (by omega), by omega, by omega, by omega, by omega, by omega, by omega, by omega, by omega, by omega⟩
 · rw [show Int.tdiv (i : Int) 2 = ((i / 2 : Nat) : Int) from yed _ 2]
   exact w64 (by omega) (by omega)
 · rw [w64 (x := (n : Int) - 1) (by omega) (by omega), w64 (by omega) (by omega)]
   omega
theorem rRead_loop (l : List Int) (hL : L8 l) (hl : l.length < 1099511627776) : ∀ (d i : Nat) (out : List Int), i + d = l.length → out.length = (i + 1) / 2 → L16 out → vd out = low 256 l.reverse i →
 Ev (fun k => yak.l0 k l out (i : Int)) (dd (rv l)) := by
 intro d
 induction d with
 | zero =>
  intro i out hd ho hO hv
  refine Ev.step (f := fun k => (yam.f k out).bind fun t => some t) (fun k => ?_) ?_
  · simp only [yak.l0]
    rw [if_neg (by omega)]
  · refine Ev.bind (yhr hO (by omega)) (Ev.same (Ev.now _) ?_)
    rw [hv, ydv _ _ (by rw [List.length_reverse]; omega)]
    rfl
 | succ d IH =>
  intro i out hd ho hO hv
  obtain ⟨e1, e2, e4, i1, i2, hi, hd1, ho2, hoe, hoo, hor, hoq⟩ := rread_idx i l.length d out.length hd hl ho
  have em : Int.tmod (i : Int) 2 = ((i % 2 : Nat) : Int) := yfe _ 2
  have hR := rev_dig hL
  obtain ⟨x, hx, hx2⟩ := yct (by decide) hR i
  have hx3 : l.getD (l.length - 1 - i) 0 = (x : Int) := by rw [← getD_rev l i hi]; exact hx
  have ex : wrap64 (x : Int) = (x : Int) := wrap_byte x hx2
  rcases Nat.mod_two_eq_zero_or_one i with hp | hp
  · have ep : 256 ^ i = 65536 ^ out.length := by
     rw [show (65536 : Nat) = 256 ^ 2 from rfl, ← Nat.pow_mul, hoe hp]
    have hstep := IH (i + 1) (out ++ [(x : Int)]) hd1 (by rw [List.length_append, List.length_singleton]; exact hor hp) (Dig.append hO (Dig.cons (Int.natCast_nonneg _) (Int.ofNat_lt.2 (Nat.lt_trans hx2 (by decide))) (Dig.nil _))) (by
     unfold vd at hv ⊢
     rw [val_append, hv]
     simp only [low, val]
     rw [hx, ep, Int.toNat_natCast]
     simp)
    clear IH hv ep
    refine Ev.step (fun k => ?_) hstep
    simp only [yak.l0]
    rw [if_pos i1, em, hp, if_pos (show ((0 : Nat) : Int) = 0 from rfl), e2, if_pos (Int.natCast_nonneg _), if_pos i2, if_pos ho2, ycp, hx3, ex, e4]
  · have ep : 256 ^ i = 65536 ^ (i / 2) * 256 := by
     rw [show (65536 : Nat) = 256 ^ 2 from rfl, ← Nat.pow_mul, ← Nat.pow_succ]
     exact congrArg (256 ^ ·) (hoo hp)
    have hlow : vd out < 65536 ^ (i / 2) * 256 := by
     rw [hv, ← ep]
     exact yfp (by decide) hR i
    obtain ⟨u, hu, hu2⟩ := yct (by decide) hO (i / 2)
    have hus : u < 256 := by
     have := digit_lt out (i / 2) 256 hO hlow
     rw [hu] at this
     exact Int.ofNat_lt.1 this
    have hil : i / 2 < out.length := (hoq hp).1
    have es := yea (B := 65536) out (i / 2) (u + 256 * x) u hil hu
    have hb16 : u + 256 * x < 65536 := byte_16 u x hus hx2
    have e5 : wrap64 ((u : Int) + wrap64 (256 * (x : Int))) = ((u + 256 * x : Nat) : Int) := byte_join u x hus hx2
    have hstep := IH (i + 1) (out.set (i / 2) ((u + 256 * x : Nat) : Int)) hd1 (by rw [List.length_set]; exact (hoq hp).2) (Dig.set hO (Int.natCast_nonneg _) (Int.ofNat_lt.2 hb16)) (by
     have e := read_sum (B := 0) es
     show val 65536 _ = _
     rw [e]
     show vd out + _ = _
     rw [hv]
     simp only [low]
     rw [hx, Int.toNat_natCast, ep, Nat.mul_assoc])
    clear IH hv ep hlow es
    refine Ev.step (fun k => ?_) hstep
    simp only [yak.l0]
    rw [if_pos i1, em, hp, if_neg (by decide), e1, if_pos (Int.natCast_nonneg _), if_pos (Int.ofNat_lt.2 hil), e2, if_pos (Int.natCast_nonneg _), if_pos i2, ycp, ycp, hu, hx3, ex, e5, e4, Int.toNat_natCast]
theorem rRead_ev {l : List Int} (hL : L8 l) (hl : l.length < 1099511627776) : Ev (fun k => yak.f k l) (dd (rv l)) := by
 unfold yak.f
 exact rRead_loop l hL hl l.length 0 [] (by omega) rfl (Dig.nil _) (by simp [low, vd, val])
theorem rv_fits {l : List Int} (hL : L8 l) (n : Nat) (hl : l.length ≤ 8 * n) : rv l < 18446744073709551616 ^ n := by
 refine Nat.lt_of_lt_of_le (rv_lt hL) ?_
 rw [pow64, show (256 : Nat) = 2 ^ 8 from rfl, ← Nat.pow_mul]
 exact Nat.pow_le_pow_right (by omega) (by omega)
theorem rv_small {l : List Int} (hL : L8 l) (hl : l.length ≤ 512) : rv l < 18446744073709551616 ^ 64 := rv_fits hL 64 hl
theorem wf_u8 {x : Int} (h : (Lit.int .u8 x).wf = true) : 0 ≤ x ∧ x < 256 := by
 simp [Lit.wf, IntKind.min, IntKind.max, IntKind.signed, IntKind.bits] at h
 omega
end Go.Proofs.Ytgnaaaliadiekaa.Q
end
