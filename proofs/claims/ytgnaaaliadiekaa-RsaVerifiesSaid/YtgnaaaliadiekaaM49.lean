/- A part of the proof (merged by pack.py, a program of this session: what the row's proof names). -/
import Derived.Test.YtgnaaaliadiekaaM4
import Derived.Test.YtgnaaaliadiekaaM5
import Derived.Test.YtgnaaaliadiekaaM8
import Derived.Test.YtgnaaaliadiekaaM15
import Derived.Test.YtgnaaaliadiekaaM27
import Derived.Test.YtgnaaaliadiekaaM36
import Derived.Test.YtgnaaaliadiekaaM41
import Derived.Test.YtgnaaaliadiekaaM42
import Derived.Test.YtgnaaaliadiekaaM47
import Derived.Test.YtgnaaaliadiekaaM48
import Derived.Test.YtgnaaaliadiekaaM0
import Derived.OpenShut
import Derived.ProofKit
import Derived.WalkKit
section
namespace Go.Proofs.Ytgnaaaliadiekaa.Q
open Go.RowKit Go.Proofs.Ytgnaaaliadiekaa.B Go.Proofs.YtgnaaaliadiekaaW.PrintWords Go.Proofs.YtgnaaaliadiekaaW.PrintLast Go.Proofs.YtgnaaaliadiekaaW.PrintMore
set_option linter.unusedVariables false
set_option linter.unusedSimpArgs false
theorem digit_of {B : Nat} (hB : 0 < B) {l : List Int} (h : Dig B l) (q : Nat) : l.getD q 0 = ((val B l / B ^ q % B : Nat) : Int) := by
 obtain ⟨x, hx, hx2⟩ := yct hB h q
 by_cases hq : q < l.length
 · have e := ygg B l q hq
   rw [ygp hB h q (Nat.le_of_lt hq), hx, Int.toNat_natCast] at e
   rw [hx, e, Nat.add_mul_mod_self_left, Nat.mod_eq_of_lt hx2]
 · have hl : val B l < B ^ q := Nat.lt_of_lt_of_le (ygo hB h) (Nat.pow_le_pow_right hB (Nat.le_of_not_lt hq))
   rw [yhm (Nat.le_of_not_lt hq), Nat.div_eq_of_lt hl, Nat.zero_mod]
   rfl
theorem byte_of (n c D : Nat) (hc : 0 < c) (hD : D % 256 = 0) : n % (c * D) / c % 256 = n / c % 256 := by
 rw [Nat.mod_mul_right_div_self]
 exact Nat.mod_mod_of_dvd _ (Nat.dvd_of_mod_eq_zero hD)
def by_ (n i : Nat) : Nat := n / 256 ^ i % 256
theorem byte64 (n i : Nat) : n / 18446744073709551616 ^ (i / 8) % 18446744073709551616 / 2 ^ (8 * (i % 8)) % 256 = by_ n i := by
 have hr : i % 8 < 8 := Nat.mod_lt _ (by decide)
 have e : 18446744073709551616 = 2 ^ (8 * (i % 8)) * 2 ^ (64 - 8 * (i % 8)) := by rw [← Nat.pow_add, Nat.add_sub_cancel' (by omega)]
 have h256 : 2 ^ (64 - 8 * (i % 8)) % 256 = 0 := by
  rw [show 64 - 8 * (i % 8) = 8 + (56 - 8 * (i % 8)) from by omega, Nat.pow_add]
  exact Nat.mul_mod_right _ _
 have key := byte_of (n / 18446744073709551616 ^ (i / 8)) (2 ^ (8 * (i % 8))) (2 ^ (64 - 8 * (i % 8))) (Nat.two_pow_pos _) h256
 rw [← e] at key
 rw [key, Nat.div_div_eq_div_mul, ← pow8]
 rfl
def bs (n size : Nat) : List Int := (List.range size).map fun k => ((by_ n (size - 1 - k) : Nat) : Int)
theorem bs_length (n size : Nat) : (bs n size).length = size := by simp [bs]
theorem bs_L (n size : Nat) : Dig 256 (bs n size) := by
 intro x hx
 obtain ⟨k, _, rfl⟩ := List.mem_map.1 hx
 exact ⟨Int.natCast_nonneg _, Int.ofNat_lt.2 (Nat.mod_lt _ (by decide))⟩
theorem bs_ext (n size : Nat) (l : List Int) (hl : l.length = size) (h : ∀ j, j < size → l.getD (size - 1 - j) 0 = ((by_ n j : Nat) : Int)) : l = bs n size := by
 refine List.ext_getElem (by rw [bs_length, hl]) (fun k h1 h2 => ?_)
 have hk : k < size := by omega
 have e := h (size - 1 - k) (by omega)
 rw [show size - 1 - (size - 1 - k) = k from by omega, List.getD_eq_getElem?_getD, List.getElem?_eq_getElem h1] at e
 simp only [bs, List.getElem_map, List.getElem_range]
 exact e
theorem bytes_idx (i n d : Nat) (hd : i + (d + 1) = n) (hn : n < 1099511627776) : wrap64 (Int.tdiv (i : Int) 8) = ((i / 8 : Nat) : Int) ∧ wrap64 (8 * (Int.tmod (i : Int) 8)) = ((8 * (i % 8) : Nat) : Int) ∧ wrap64 (wrap64 ((n : Int) - 1) - (i : Int)) = ((n - 1 - i : Nat) : Int) ∧ wrap64 ((i : Int) + 1) = ((i + 1 : Nat) : Int) ∧
 (i : Int) < (n : Int) ∧ ((n - 1 - i : Nat) : Int) < (n : Int) ∧ n - 1 - i < n ∧ 8 * (i % 8) ≤ 64 ∧ i + 1 + d = n ∧ (∀ j, j < i → n - 1 - i ≠ n - 1 - j) ∧ wrap64 (Int.tdiv (i : Int) 2) = ((i / 2 : Nat) : Int) := by
 refine ⟨?_, ?_, ?_, w64 (by omega) (by omega), by omega, by omega, by omega, by omega, by omega, fun j hj => by omega, ?_⟩
 · rw [show Int.tdiv (i : Int) 8 = ((i / 8 : Nat) : Int) from yed _ 8]
   exact w64 (by omega) (by omega)
 · rw [show Int.tmod (i : Int) 8 = ((i % 8 : Nat) : Int) from yfe _ 8]
   exact w64 (by omega) (by omega)
 · rw [w64 (x := (n : Int) - 1) (by omega) (by omega), w64 (by omega) (by omega)]
   omega
 · rw [show Int.tdiv (i : Int) 2 = ((i / 2 : Nat) : Int) from yed _ 2]
   exact w64 (by omega) (by omega)
theorem set_next (out : List Int) (n size i : Nat) (hi : i < size) (ho : out.length = size) (hne : ∀ j, j < i → size - 1 - i ≠ size - 1 - j) (h : ∀ j, j < i → out.getD (size - 1 - j) 0 = ((by_ n j : Nat) : Int)) :
 ∀ j, j < i + 1 → (out.set (size - 1 - i) ((by_ n i : Nat) : Int)).getD (size - 1 - j) 0 = ((by_ n j : Nat) : Int) := by
 intro j hj
 rcases Nat.lt_or_eq_of_le (Nat.le_of_lt_succ hj) with h1 | h1
 · rw [getD_set_ne _ _ _ _ (hne j h1)]
   exact h j h1
 · subst h1
   exact yep _ _ _ (by omega)
theorem Bytes_loop (a : List Int) (hA : L64 a) (ha : a.length < 17592186044416) (size : Nat) (hs : size < 1099511627776) : ∀ (d i : Nat) (out : List Int), i + d = size → out.length = size → (∀ j, j < i → out.getD (size - 1 - j) 0 = ((by_ (vl a) j : Nat) : Int)) →
 Ev (fun k => yck.l0 k a (size : Int) out (size : Int) (i : Int)) (bs (vl a) size, true) := by
 intro d
 induction d with
 | zero =>
  intro i out hd ho h
  refine Ev.succ ?_
  simp only [yck.l0]
  refine Ev.congr (fun k => if_neg (by omega)) (Ev.same (Ev.now _) ?_)
  rw [bs_ext (vl a) size out ho (fun j hj => h j (by omega))]
 | succ d IH =>
  intro i out hd ho h
  obtain ⟨e1, e2, e3, e4, c1, c2, c3, c4, hd1, hne, _⟩ := bytes_idx i size d hd hs
  have c2' : ((size - 1 - i : Nat) : Int) < (out.length : Int) := by rw [ho]; exact c2
  have hdig : a.getD (i / 8) 0 = ((vl a / 18446744073709551616 ^ (i / 8) % 18446744073709551616 : Nat) : Int) := digit_of (by decide) hA _
  have hb : shr .u64 ((vl a / 18446744073709551616 ^ (i / 8) % 18446744073709551616 : Nat) : Int) ((8 * (i % 8) : Nat) : Int) % 256 = ((by_ (vl a) i : Nat) : Int) := by
   rw [yhs _ _ c4, ← byte64]
   rfl
  refine Ev.succ ?_
  simp only [yck.l0, if_pos c1, e1, yfq ha, hdig, Option.bind_some, e2, if_pos (Int.natCast_nonneg (8 * (i % 8))), e3, if_pos (Int.natCast_nonneg (size - 1 - i)), if_pos c2', hb, e4, Int.toNat_natCast]
  exact IH (i + 1) _ hd1 Z29_ (set_next out (vl a) size i (Int.ofNat_lt.1 c1) ho hne h)
theorem Bytes_ev {a : List Int} (hA : L64 a) (ha : a.length < 1099511627776) (size : Nat) (hs : size ≤ 512) (h : bl (vl a) ≤ 8 * size) : Ev (fun k => yck.f k a (size : Int)) (bs (vl a) size, true) := by
 unfold yck.f
 refine Ev.congr (fun k => (if_neg (by omega)).trans (if_neg (by omega))) ?_
 refine Ev.bind (Len_ev hA ha) ?_
 have ew : wrap64 (8 * (size : Int)) = ((8 * size : Nat) : Int) := w64 (by omega) (by omega)
 rw [ew, decide_eq_false (show ¬ ((bl (vl a) : Nat) : Int) > ((8 * size : Nat) : Int) from fun h2 => Nat.lt_irrefl _ (Nat.lt_of_lt_of_le (Int.ofNat_lt.1 h2) h))]
 refine Ev.succ ?_
 simp only [yck.j0]
 refine Ev.congr (fun k => (if_neg (by decide)).trans ((if_pos (Int.natCast_nonneg _)).trans (if_pos (by rw [Int.toNat_natCast]; omega)))) ?_
 rw [Int.toNat_natCast]
 exact Bytes_loop a hA (by omega) size (by omega) size 0 _ (by omega) List.length_replicate (fun j hj => absurd hj (Nat.not_lt_zero j))
end Go.Proofs.Ytgnaaaliadiekaa.Q
end
section
namespace Go.Proofs.Ytgnaaaliadiekaa.Q
open Go.RowKit Go.Proofs.Ytgnaaaliadiekaa.B Go.Proofs.YtgnaaaliadiekaaW.PrintWords Go.Proofs.YtgnaaaliadiekaaW.PrintLast Go.Proofs.YtgnaaaliadiekaaW.PrintMore
set_option linter.unusedVariables false
theorem toList_loop (bs : ByteArray) : ∀ (d i : Nat) (r : List UInt8), bs.size - i = d → ByteArray.toList.loop bs i r = r.reverse ++ bs.data.toList.drop i
 | 0, i, r, h => by
  have hs : bs.data.toList.length = bs.size := rfl
  rw [ByteArray.toList.loop, if_neg (by omega), List.drop_eq_nil_of_le (by omega), List.append_nil]
 | d + 1, i, r, h => by
  have hs : bs.data.toList.length = bs.size := rfl
  have hi : i < bs.data.toList.length := by omega
  rw [ByteArray.toList.loop, if_pos (by omega), toList_loop bs d (i + 1) _ (by omega), List.reverse_cons, List.append_assoc, List.drop_eq_getElem_cons hi]
  have e : bs.get! i = bs.data.toList[i] := by
   show bs.data[i]! = _
   rw [getElem!_pos bs.data i (by simpa using hi)]
   simp
  rw [e]
  rfl
theorem toList_str (xs : List Int) : (strOfNums xs).toList = xs.map fun n => UInt8.ofNat n.toNat := by
 show ByteArray.toList.loop _ 0 [] = _
 rw [toList_loop _ _ 0 [] rfl, List.reverse_nil, List.nil_append, List.drop_zero, strOfNums_data]
theorem map_u8_inj : ∀ {a b : List Int}, L8 a → L8 b → (a.map fun n => UInt8.ofNat n.toNat) = (b.map fun n => UInt8.ofNat n.toNat) → a = b
 | [], [], _, _, _ => rfl
 | [], _ :: _, _, _, h => by cases h
 | _ :: _, [], _, _, h => by cases h
 | x :: a, y :: b, ha, hb, h => by
  simp only [List.map_cons, List.cons.injEq] at h
  have hx := ha x (by simp)
  have hy := hb y (by simp)
  have e : (UInt8.ofNat x.toNat).toNat = (UInt8.ofNat y.toNat).toNat := by rw [h.1]
  simp only [UInt8.toNat_ofNat'] at e
  have : x = y := by omega
  rw [this, map_u8_inj (fun z hz => ha z (by simp [hz])) (fun z hz => hb z (by simp [hz])) h.2]
theorem equal_ev {a b : List Int} (ha : L8 a) (hb : L8 b) : bytes_Equal.f a b = some (decide (a = b)) := by
 unfold bytes_Equal.f
 rw [toList_str, toList_str]
 by_cases h : a = b
 · subst h
   simp
 · rw [decide_eq_false h]
   have : ¬ (a.map fun n => UInt8.ofNat n.toNat) = (b.map fun n => UInt8.ofNat n.toNat) := fun e => h (map_u8_inj ha hb e)
   simpa using this
theorem by_inj : ∀ (n a b : Nat), a < 256 ^ n → b < 256 ^ n → (∀ j, j < n → by_ a j = by_ b j) → a = b
 | 0, a, b, ha, hb, _ => by simp at ha hb; omega
 | n + 1, a, b, ha, hb, h => by
  rw [Nat.pow_succ] at ha hb
  have h0 := h 0 (by omega)
  simp only [by_, Nat.pow_zero, Nat.div_one] at h0
  have ih := by_inj n (a / 256) (b / 256) (by omega) (by omega) (fun j hj => by
   have := h (j + 1) (by omega)
   simp only [by_] at this ⊢
   rw [Nat.div_div_eq_div_mul, Nat.div_div_eq_div_mul, Nat.mul_comm 256, ← Nat.pow_succ]
   exact this)
  omega
theorem bs_inj {n a b : Nat} (ha : a < 256 ^ n) (hb : b < 256 ^ n) (h : bs a n = bs b n) : a = b := by
 refine by_inj n a b ha hb (fun j hj => ?_)
 have e : (bs a n)[n - 1 - j]? = (bs b n)[n - 1 - j]? := by rw [h]
 rw [List.getElem?_eq_getElem (by rw [bs_length]; omega), List.getElem?_eq_getElem (by rw [bs_length]; omega)] at e
 simp only [bs, List.getElem_map, List.getElem_range, Option.some.injEq] at e
 rw [show n - 1 - (n - 1 - j) = j from by omega] at e
 exact Int.ofNat.inj e
theorem bs_rv' (l : List Int) (hL : L8 l) : bs (rv l) l.length = l := by
 refine (bs_ext (rv l) l.length l rfl (fun j hj => ?_)).symm
 have h := digit_of (B := 256) (by decide) (rev_dig hL) j
 rw [getD_rev l j hj] at h
 exact h
theorem pad_len (z : Nat) (hs : List Int) (hl : hs.length = 32) (h1 : 62 ≤ z) (h2 : z ≤ 512) : (yfo (z : Int) hs).length = z := by
 unfold yfo
 rw [if_pos ⟨by omega, by omega⟩]
 simp only [List.length_append, List.length_replicate, List.length_cons, List.length_nil, hl, infoL]
 omega
theorem pad_L (z : Int) (hs : List Int) (hL : L8 hs) : L8 (yfo z hs) := by
 unfold yfo
 split
 · intro x hx
   simp only [List.mem_append, List.mem_replicate, infoL, List.mem_cons, List.not_mem_nil, or_false] at hx
   rcases hx with (((hx | hx) | hx) | hx) | hx
   · omega
   · omega
   · omega
   · omega
   · exact hL x hx
 · exact Dig.nil _
theorem bl_num (n : Nat) : n < 256 ^ ((bl n + 7) / 8) := by
 have h := lt_bl n
 refine Nat.lt_of_lt_of_le h ?_
 rw [show (256 : Nat) = 2 ^ 8 from rfl, ← Nat.pow_mul]
 exact Nat.pow_le_pow_right (by decide) (by omega)
theorem pow_fits (z n : Nat) (h : z ≤ 8 * n) : 256 ^ z ≤ 18446744073709551616 ^ n := by
 rw [show (18446744073709551616 : Nat) = 256 ^ 8 from rfl, ← Nat.pow_mul]
 exact Nat.pow_le_pow_right (by decide) h
def SigC (N E : Nat) (hs sg : List Int) : Prop := KeyC N E ∧ sg.length = (bl N + 7) / 8 ∧ rv sg < N ∧ rv sg ^ E % N = rv (yfo (sg.length : Int) hs)
instance (N E : Nat) (hs sg : List Int) : Decidable (SigC N E hs sg) := by unfold SigC; infer_instance
theorem verify_ev {l m hs sg : List Int} (hl : L64 l) (hm : L64 m) (nl : l.length < 1000) (nm : m.length < 1000) (hh : hs.length = 32) (hL : L8 hs) (hg : L8 sg) (ng : sg.length ≤ 300) : Ev (fun k => ycz.f k l m hs sg) (decide (SigC (vl l) (vl m) hs sg)) := by
 unfold ycz.f
 refine Ev.bind (check_ev hl hm nl nm) ?_
 by_cases c : KeyC (vl l) (vl m)
 case neg =>
  rw [decide_eq_false (fun h => c h.1), if_neg c]
  exact Ev.congr (fun k => if_neg (by decide)) (Ev.now _)
 rw [if_pos c]
 refine Ev.congr (fun k => if_pos rfl) ?_
 refine Ev.bind (size_ev hl nl m) ?_
 by_cases hz : sg.length = (bl (vl l) + 7) / 8
 case neg =>
  rw [decide_eq_false (fun h => hz h.2.1)]
  exact Ev.congr (fun k => if_neg (by omega)) (Ev.now _)
 refine Ev.congr (fun k => if_pos (by omega)) ?_
 have hN := bl_num (vl l)
 rw [← hz] at hN
 have hr := rv_lt hg
 refine Ev.bind (Read_ev hg (by omega)) ?_
 have hdl : (dg (rv sg)).length ≤ 64 := ygl.2 (rv_small hg (by omega))
 dsimp only
 refine Ev.bind (Cmp_ev (dg_L _) hl (by omega) (by omega)) ?_
 rw [yfj]
 by_cases hs' : rv sg < vl l
 case neg =>
  rw [decide_eq_false (fun h => hs' h.2.2.1)]
  exact Ev.congr (fun k => if_neg (fun h => hs' (yer.1 h))) (Ev.now _)
 refine Ev.congr (fun k => if_pos (yer.2 hs')) ?_
 have h0 : 0 < vl l := by omega
 refine Ev.bind (mPow_ev (dg_L _) hm hl (by omega) (by omega) (by omega) h0) ?_
 rw [yfj]
 dsimp only
 have hM : rv sg ^ vl m % vl l < vl l := Nat.mod_lt _ h0
 obtain ⟨M, eM⟩ : ∃ M, rv sg ^ vl m % vl l = M := ⟨_, rfl⟩
 rw [eM] at hM ⊢
 have hMl : (dg M).length ≤ 64 := ygl.2 (Nat.lt_of_lt_of_le (Nat.lt_trans hM hN) (pow_fits _ 64 (by have := c.2.1; omega)))
 have hMb : bl M ≤ 8 * sg.length := bl_le _ _ (by rw [Nat.pow_mul]; exact Nat.lt_trans hM hN)
 have hb := Bytes_ev (dg_L M) (by omega) sg.length (by omega) (by rw [yfj]; exact hMb)
 rw [yfj] at hb
 refine Ev.bind hb ?_
 refine Ev.congr (fun k => if_pos rfl) ?_
 have hp := pad_len sg.length hs hh (by have := c.1; omega) (by have := c.2.1; omega)
 have hpL := pad_L (sg.length : Int) hs hL
 rw [equal_ev (bs_L _ _) hpL]
 refine Ev.same (Ev.now _) ?_
 have hrp := rv_lt hpL
 rw [hp] at hrp
 by_cases e : M = rv (yfo (sg.length : Int) hs)
 · rw [decide_eq_true (show SigC (vl l) (vl m) hs sg from ⟨c, hz, hs', by rw [eM]; exact e⟩), decide_eq_true]
   have := bs_rv' _ hpL
   rw [hp, ← e] at this
   exact this
 · rw [decide_eq_false (fun h : SigC (vl l) (vl m) hs sg => e (by rw [← eM]; exact h.2.2.2)), decide_eq_false]
   intro h
   have := bs_rv' _ hpL
   rw [hp] at this
   exact e (bs_inj (Nat.lt_trans hM hN) hrp (h.trans this.symm))
theorem power_ev {l m hs sg : List Int} (hl : L64 l) (hm : L64 m) (nl : l.length < 1000) (nm : m.length < 1000) (pl : vl l ≠ 0) (pm : vl m ≠ 0) (hh : hs.length = 32) (hL : L8 hs) (hg : L8 sg) (ng : sg.length ≤ 300) : Ev (fun k => yby.f k l m hs sg) (decide (SigC (vl l) (vl m) hs sg)) := by
 unfold yby.f
 have dl := yfs hl nl
 have dm := yfs hm nm
 refine Ev.bind (rsaRef_ev hl hm nl nm pl pm) ?_
 by_cases c : KeyC (vl l) (vl m)
 case neg =>
  rw [decide_eq_false (fun h : SigC (vl l) (vl m) hs sg => c h.1)]
  exact Ev.congr (fun k => if_neg (by simpa using c)) (Ev.now _)
 refine Ev.congr (fun k => if_pos (by simpa using c)) ?_
 refine Ev.bind (rsize_ev hl nl m) ?_
 by_cases hz : sg.length = (bl (vl l) + 7) / 8
 case neg =>
  rw [decide_eq_false (fun h : SigC (vl l) (vl m) hs sg => hz h.2.1)]
  exact Ev.congr (fun k => if_neg (by omega)) (Ev.now _)
 refine Ev.congr (fun k => if_pos (by omega)) ?_
 refine Ev.bind (rOf_ev hl (by omega)) ?_
 refine Ev.bind (rRead_ev hg (by omega)) ?_
 have hr : (dd (rv sg)).length ≤ 4 * 64 := dd_small (rv_small hg (by omega))
 refine Ev.bind (rcmp_ev _ _ (by omega)) ?_
 by_cases hs' : rv sg < vl l
 case neg =>
  rw [decide_eq_false (fun h : SigC (vl l) (vl m) hs sg => hs' h.2.2.1)]
  exact Ev.congr (fun k => if_neg (fun h => hs' (yer.1 h))) (Ev.now _)
 refine Ev.congr (fun k => if_pos (yer.2 hs')) ?_
 have h0 : 0 < vl l := by omega
 refine Ev.bind (rOf_ev hm (by omega)) ?_
 refine Ev.bind (rPow_ev _ _ _ (by omega) (by omega) (by omega) h0) ?_
 have hp := pad_len sg.length hs hh (by have := c.1; omega) (by have := c.2.1; omega)
 have hpL := pad_L (sg.length : Int) hs hL
 refine Ev.bind (rRead_ev hpL (by omega)) ?_
 have hx := dd_mod (x := rv sg ^ vl m) h0
 refine Ev.bind (rcmp_ev _ _ (by omega)) ?_
 refine Ev.same (Ev.now _) ?_
 by_cases e : rv sg ^ vl m % vl l = rv (yfo (sg.length : Int) hs)
 · rw [decide_eq_true (show SigC (vl l) (vl m) hs sg from ⟨c, hz, hs', e⟩), e]
   simp [cmp3]
 · rw [decide_eq_false (fun h : SigC (vl l) (vl m) hs sg => e h.2.2.2), decide_eq_false]
   unfold cmp3
   split
   · simp
   · split
     · simp
     · omega
theorem VerOk_ev {l m hs sg : List Int} (hl : L64 l) (hm : L64 m) (nl : l.length < 1000) (nm : m.length < 1000) (hh : hs.length = 32) (hL : L8 hs) (hg : L8 sg) (ng : sg.length ≤ 300) : ∃ K, ∀ k, K ≤ k → VerOk k l m hs sg := by
 have dl := yfs hl nl
 have dm := yfs hm nm
 obtain ⟨K1, h1⟩ := rOf_ev hl (by omega)
 obtain ⟨K2, h2⟩ := rLen_ev (n := vl l) (by omega)
 obtain ⟨K3, h3⟩ := rOf_ev hm (by omega)
 obtain ⟨K4, h4⟩ := rLen_ev (n := vl m) (by omega)
 obtain ⟨K5, h5⟩ := verify_ev hl hm nl nm hh hL hg ng
 have h8 : ∃ K, ∀ k, K ≤ k → 0 < (bl (vl l) : Int) → 0 < (bl (vl m) : Int) → yby.f k l m hs sg = some (decide (SigC (vl l) (vl m) hs sg)) := by
  by_cases pl : vl l = 0
  · exact ⟨0, fun k _ h => by rw [pl, yfu] at h; omega⟩
  by_cases pm : vl m = 0
  · exact ⟨0, fun k _ _ h => by rw [pm, yfu] at h; omega⟩
  obtain ⟨K, h⟩ := power_ev hl hm nl nm pl pm hh hL hg ng
  exact ⟨K, fun k hk _ _ => h k hk⟩
 obtain ⟨K8, h8⟩ := h8
 refine ⟨K1 + K2 + K3 + K4 + K5 + K8, fun k hk => ⟨_, _, _, _, _, _, h1 k (by omega), h2 k (by omega), h3 k (by omega), h4 k (by omega), h8 k (by omega), h5 k (by omega), ?_⟩⟩
 by_cases c : SigC (vl l) (vl m) hs sg
 · have p1 : bl (vl l) ≠ 0 := fun h => by have := c.1.1; rw [h] at this; omega
   have p2 : bl (vl m) ≠ 0 := fun h => by
    have h3 := c.1.2.2.2.1
    have := lt_bl (vl m)
    rw [h] at this
    omega
   rw [decide_eq_true c, if_pos ⟨by omega, by omega, rfl⟩]
 · rw [decide_eq_false c, if_neg (fun h => by simp at h)]
theorem u8_of {l : List Int} (h : ∀ x ∈ l, (Lit.int .u8 x).wf = true) : L8 l := fun x hx => by
 have := h x hx
 simp [Lit.wf, IntKind.min, IntKind.max, IntKind.signed, IntKind.bits] at this
 omega
theorem verifies (l0 l1 l4 hs : List Int) (s : Int) (rt : Bool) (w0 : ∀ x ∈ l0, (Lit.int .u64 x).wf = true) (w1 : ∀ x ∈ l1, (Lit.int .u64 x).wf = true) (w4 : ∀ x ∈ l4, (Lit.int .u8 x).wf = true) (wh : ∀ x ∈ hs, (Lit.int .u8 x).wf = true) (hl : hs.length = 32) :
 ∃ k n e d n2 e2, ybk.f k s = some (n, e, d) ∧ yal.f k n = some n2 ∧ yal.f k e = some e2 ∧ 0 < n2.length ∧
  ((10 : Int) < l0.length ∨ (1 : Int) < l1.length ∨ (300 : Int) < l4.length ∨ VerOk k (if rt = true then n2 else l0) (if rt = true then e2 else l1) hs (if rt = true ∧ (64 : Int) < l4.length then l4.take 64 else l4)) := by
 obtain ⟨n, e, d, n2, e2, ⟨K1, h1⟩, ⟨K2, h2⟩, ⟨K3, h3⟩, ln, le, Ln, Le⟩ := rsaKey s
 by_cases q0 : (10 : Int) < l0.length
 · exact ⟨K1 + K2 + K3, n, e, d, n2, e2, h1 _ (by omega), h2 _ (by omega), h3 _ (by omega), by omega, .inl q0⟩
 by_cases q1 : (1 : Int) < l1.length
 · exact ⟨K1 + K2 + K3, n, e, d, n2, e2, h1 _ (by omega), h2 _ (by omega), h3 _ (by omega), by omega, .inr (.inl q1)⟩
 by_cases q2 : (300 : Int) < l4.length
 · exact ⟨K1 + K2 + K3, n, e, d, n2, e2, h1 _ (by omega), h2 _ (by omega), h3 _ (by omega), by omega, .inr (.inr (.inl q2))⟩
 have g4 := u8_of w4
 obtain ⟨N, eN⟩ : ∃ N, (if rt = true then n2 else l0) = N := ⟨_, rfl⟩
 obtain ⟨E, eE⟩ : ∃ E, (if rt = true then e2 else l1) = E := ⟨_, rfl⟩
 obtain ⟨sg, es⟩ : ∃ sg, (if rt = true ∧ (64 : Int) < l4.length then l4.take 64 else l4) = sg := ⟨_, rfl⟩
 have a1 : L64 N ∧ N.length ≤ 10 := by
  rw [← eN]
  split
  · exact ⟨Ln, by omega⟩
  · exact ⟨wf_L64 w0, by omega⟩
 have a2 : L64 E ∧ E.length ≤ 1 := by
  rw [← eE]
  split
  · exact ⟨Le, by omega⟩
  · exact ⟨wf_L64 w1, by omega⟩
 have a3 : L8 sg ∧ sg.length ≤ 300 := by
  rw [← es]
  split
  · exact ⟨fun x hx => g4 x (List.mem_of_mem_take hx), by rw [List.length_take]; omega⟩
  · exact ⟨g4, by omega⟩
 obtain ⟨K4, h4⟩ := VerOk_ev (hs := hs) a1.1 a2.1 (by omega) (by omega) hl (u8_of wh) a3.1 a3.2
 exact ⟨K1 + K2 + K3 + K4, n, e, d, n2, e2, h1 _ (by omega), h2 _ (by omega), h3 _ (by omega), by omega, .inr (.inr (.inr (by rw [eN, eE, es]; exact h4 _ (by omega))))⟩
end Go.Proofs.Ytgnaaaliadiekaa.Q
end
section
namespace Go.Proofs.Ytgnaaaliadiekaa.B
open Go.ChangeShapes Go.WideShapes Go.RowKit
set_option linter.unusedVariables false
theorem list_ints {q : IntKind} : ∀ (l : List Value), (∀ v ∈ l, ∃ a, v = Value.int q a ∧ (Lit.int q a).wf = true) → ∃ xs : List Int, l = xs.map (Value.int q) ∧ ∀ x ∈ xs, (Lit.int q x).wf = true
 | [], _ => ⟨[], rfl, by simp⟩
 | v :: l, h => by
  obtain ⟨a, rfl, hw⟩ := h v (by simp)
  obtain ⟨xs, rfl, hx⟩ := list_ints l (fun v hv => h v (by simp [hv]))
  exact ⟨a :: xs, rfl, by simpa using ⟨hw, hx⟩⟩
theorem open_ints_array {H : Type} {enc : TypeId × Value → H} {P : Program} {W : World} {base b0 : Nat} {sp : Nat → Bool} {held : Bool} {r : Reach} {t e : TypeId} {n : Nat} {q : IntKind} {v : Value} {d : DataW H} {ps : List MemPlace}
 (ht : P.underlying t = some (.array n e)) (he : P.underlying e = some (.int q)) (hce : P.cellsOf e = 1) (hct : P.cellsOf t = n) (hval : Value.okWide P W r b0 t v) (hd : DataW.Trod enc P W base sp held t v d ps) :
 ∃ xs : List Int, v = .agg (xs.map (Value.int q)).toArray ∧ xs.length = n ∧ ∀ x ∈ xs, (Lit.int q x).wf = true := by
 simp only [Value.okWide, ht] at hval
 obtain ⟨cs, rfl, hsz, -⟩ := hval
 obtain ⟨fuel, hf⟩ := hd
 obtain ⟨xs, m, -, -, hl, hxl, hg⟩ := DataW.trod_array ht hf
 have hcl : cs.toList.length = n := by simpa [hct] using hsz
 have hall : ∀ v ∈ cs.toList, ∃ a, v = Value.int q a ∧ (Lit.int q a).wf = true := by
  intro v hv
  obtain ⟨i, hi, rfl⟩ := List.getElem_of_mem hv
  have h1 := hg i (by omega)
  rw [List.getElem?_eq_getElem (by omega)] at h1
  rw [hce, Nat.mul_one] at h1
  obtain ⟨a, h2, -, hw⟩ := DataW.trod_int he h1
  refine ⟨a, ?_, hw⟩
  have h3 : ((cs.toList.drop i).take 1)[0]? = some (cs.toList[i]) := by
   rw [List.getElem?_take, if_pos (by omega), List.getElem?_drop, Nat.add_zero, List.getElem?_eq_getElem hi]
  have h4 : (cs.toList.drop i).take 1 = [Value.int q a] := h2
  rw [h4] at h3
  simpa using h3.symm
 obtain ⟨zs, hz, hw⟩ := list_ints _ hall
 refine ⟨zs, ?_, ?_, hw⟩
 · rw [← hz]
 · rw [← hcl, hz, List.length_map]
end Go.Proofs.Ytgnaaaliadiekaa.B
end
