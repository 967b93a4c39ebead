/- The document's bytes of a number. -/
import Derived.Test.YtbnbofflnpppfaaBx0
import Derived.Test.YtbnbofflnpppfaaBx28
import Derived.Test.YtbnbofflnpppfaaQA13
namespace Go.Proofs.Ytbnbofflnpppfaa.Q
open Go.RowKit Go.Proofs.Ytbnbofflnpppfaa.B Go.Proofs.YtbnbofflnpppfaaW.PrintWords Go.Proofs.YtbnbofflnpppfaaW.PrintLast Go.Proofs.YtbnbofflnpppfaaW.PrintMore
set_option linter.unusedVariables false
set_option linter.unusedSimpArgs false

theorem byte_odd (x : Nat) (h : x < 65536) : (Int.tmod (wrap64 (Int.tdiv (x : Int) 256)) 256) % 256 = ((x / 256 % 256 : Nat) : Int) := by
  rw [show Int.tdiv (x : Int) 256 = ((x / 256 : Nat) : Int) from tdiv_nat _ 256, w64 (by omega) (by omega), show Int.tmod ((x / 256 : Nat) : Int) 256 = ((x / 256 % 256 : Nat) : Int) from tmod_nat _ 256]
  omega
theorem byte_even (x : Nat) : (Int.tmod (x : Int) 256) % 256 = ((x % 256 : Nat) : Int) := by
  rw [show Int.tmod (x : Int) 256 = ((x % 256 : Nat) : Int) from tmod_nat _ 256]
  omega
theorem rBytes_loop (n : Nat) (hn : (dd n).length < 1099511627776) (size : Nat) (hs : size < 1099511627776) : ∀ (d i : Nat) (out : List Int), i + d = size → out.length = size → (∀ j, j < i → out.getD (size - 1 - j) 0 = ((by_ n j : Nat) : Int)) →
    Ev (fun k => latchkeyref01_Bytes.l0 k (dd n) (size : Int) out (i : Int)) (bs n size) := by
  intro d
  induction d with
  | zero =>
    intro i out hd ho h
    refine Ev.succ ?_
    simp only [latchkeyref01_Bytes.l0]
    refine Ev.congr (fun k => if_neg (by omega)) (Ev.same (Ev.now _) ?_)
    exact bs_ext n size out ho (fun j hj => h j (by omega))
  | succ d IH =>
    intro i out hd ho h
    obtain ⟨_, _, e3, e4, c1, c2, c3, _, hd1, hne, e2⟩ := bytes_idx i size d hd hs
    have c2' : ((size - 1 - i : Nat) : Int) < (out.length : Int) := by rw [ho]; exact c2
    obtain ⟨x, hx, hx2⟩ := getD_nat (by decide) (dd_L n) (i / 2)
    have hdig : (dd n).getD (i / 2) 0 = ((n / 65536 ^ (i / 2) % 65536 : Nat) : Int) := by
      have := digit_of (B := 65536) (by decide) (dd_L n) (i / 2)
      rw [show val 65536 (dd n) = n from vd_dd n] at this
      exact this
    have hxe : x = n / 65536 ^ (i / 2) % 65536 := Int.ofNat_inj.1 (hx.symm.trans hdig)
    have hby := byte16 n i
    rw [← hxe] at hby
    have em : Int.tmod (i : Int) 2 = ((i % 2 : Nat) : Int) := tmod_nat _ 2
    have next : Ev (fun k => latchkeyref01_Bytes.l0 k (dd n) (size : Int) (out.set (size - 1 - i) ((by_ n i : Nat) : Int)) ((i + 1 : Nat) : Int)) (bs n size) :=
      IH (i + 1) _ hd1 (by rw [List.length_set]; exact ho) (set_next out n size i (Int.ofNat_lt.1 c1) ho hne h)
    clear IH hxe hdig
    refine Ev.succ ?_
    simp only [latchkeyref01_Bytes.l0, if_pos c1, e2, e3, e4, em, if_pos (Int.natCast_nonneg (i / 2)), if_pos (Int.natCast_nonneg (size - 1 - i)), if_pos c2', rd_getD, hx, byte_odd x hx2, byte_even x, Int.toNat_natCast]
    rcases Nat.mod_two_eq_zero_or_one i with hp | hp
    · rw [hp, Nat.pow_zero, Nat.div_one] at hby
      rw [hp]
      by_cases hl : ((i / 2 : Nat) : Int) < ((dd n).length : Int)
      · simp only [if_pos hl]
        refine Ev.congr (fun k => if_neg (by decide)) ?_
        rw [hby]
        exact next
      · simp only [if_neg hl]
        refine Ev.congr (fun k => if_neg (by decide)) ?_
        have hx0 : x = 0 := by
          rw [getD_zero (Nat.le_of_not_lt (fun h => hl (Int.ofNat_lt.2 h)))] at hx
          exact Int.ofNat_eq_zero.1 hx.symm
        rw [hx0] at hby
        rw [show (0 : Int) % 256 = ((0 % 256 : Nat) : Int) from rfl, hby]
        exact next
    · rw [hp, Nat.pow_one] at hby
      rw [hp]
      by_cases hl : ((i / 2 : Nat) : Int) < ((dd n).length : Int)
      · simp only [if_pos hl]
        refine Ev.congr (fun k => if_pos rfl) ?_
        rw [hby]
        exact next
      · simp only [if_neg hl]
        refine Ev.congr (fun k => if_pos rfl) ?_
        have hx0 : x = 0 := by
          rw [getD_zero (Nat.le_of_not_lt (fun h => hl (Int.ofNat_lt.2 h)))] at hx
          exact Int.ofNat_eq_zero.1 hx.symm
        rw [hx0] at hby
        rw [show (0 : Int) / 256 % 256 = ((0 / 256 % 256 : Nat) : Int) from rfl, hby]
        exact next
theorem rBytes_ev (n size : Nat) (hn : (dd n).length < 1099511627776) (hs : size < 1099511627776) : Ev (fun k => latchkeyref01_Bytes.f k (dd n) (size : Int)) (bs n size) := by
  unfold latchkeyref01_Bytes.f
  refine Ev.congr (fun k => (if_pos (Int.natCast_nonneg _)).trans (if_pos (by rw [Int.toNat_natCast]; omega))) ?_
  rw [Int.toNat_natCast]
  exact rBytes_loop n hn size hs size 0 _ (by omega) List.length_replicate (fun j hj => absurd hj (Nat.not_lt_zero j))
end Go.Proofs.Ytbnbofflnpppfaa.Q
