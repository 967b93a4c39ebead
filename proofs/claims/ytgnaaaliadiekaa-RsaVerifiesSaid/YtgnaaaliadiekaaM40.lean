/- A part of the proof (merged by pack.py, a program of this session: what the row's proof names). -/
import Derived.Test.YtgnaaaliadiekaaM4
import Derived.Test.YtgnaaaliadiekaaM5
import Derived.Test.YtgnaaaliadiekaaM8
import Derived.Test.YtgnaaaliadiekaaM15
import Derived.Test.YtgnaaaliadiekaaM16
import Derived.Test.YtgnaaaliadiekaaM17
import Derived.Test.YtgnaaaliadiekaaM19
import Derived.Test.YtgnaaaliadiekaaM37
import Derived.Test.YtgnaaaliadiekaaM38
import Derived.Test.YtgnaaaliadiekaaM39
import Derived.Test.YtgnaaaliadiekaaM0
section
namespace Go.Proofs.Ytgnaaaliadiekaa.B
open Go.RowKit Go.Proofs.YtgnaaaliadiekaaW.PrintWords Go.Proofs.YtgnaaaliadiekaaW.PrintLast Go.Proofs.YtgnaaaliadiekaaW.PrintMore
set_option linter.unusedVariables false
set_option linter.unusedSimpArgs false
set_option maxHeartbeats 4000000 in
set_option maxRecDepth 100000 in
theorem ydt.calls (k : Nat) (A0 : Option Addr) (c0 : Nat) (l0 : List Int) (A1 : Option Addr) (c1 : Nat) (l1 : List Int) (A4 : Option Addr) (c4 : Nat) (l4 : List Int) (s : Int) (hs : List Int) (n e d n2 e2 : List Int) (w : World) (hr_l0 : Kd.C (Kd.int .u64) w A0 l0.length l0) (hc_l0 : l0.length ≤ c0) (hr_l1 : Kd.C (Kd.int .u64) w A1 l1.length l1) (hc_l1 : l1.length ≤ c1) (hr_l4 : Kd.C (Kd.int .u8) w A4 l4.length l4) (hc_l4 : l4.length ≤ c4) (hl : hs.length = 32) (hs0 : 0 ≤ s) (hs1 : s < 256) (hp : 0 < n2.length) (h1 : ybk.f k s = some (n, e, d)) (h2 : yal.f k n = some n2) (h3 : yal.f k e = some e2) (rt : Bool) (hg : (10 : Int) < l0.length ∨ (1 : Int) < l1.length ∨ (300 : Int) < l4.length ∨ VerOk k (if rt = true then n2 else l0) (if rt = true then e2 else l1) hs (if rt = true ∧ (64 : Int) < l4.length then l4.take 64 else l4)) :
 Calls Try.prog 8 #[.agg #[.slice A0 l0.length c0, .slice A1 l1.length c1], .int .u8 s, .bool rt, .agg (hs.map (Value.int .u8)).toArray, .slice A4 l4.length c4] w fun x w' => x = .returned (.bool true) ∧ Below w.heap.size w w' := by
 by_cases q0 : (10 : Int) < l0.length
 · clear hg
   have HR_l0 := Aside0.mk hr_l0
   have HR_l1 := Aside0.mk hr_l1
   have HR_l4 := Aside0.mk hr_l4
   clear hr_l0 hr_l1 hr_l4
   have H1 := Aside0.mk h1
   have H2 := Aside0.mk h2
   have H3 := Aside0.mk h3
   clear h1 h2 h3
   obtain ⟨L, hL⟩ : ∃ L, hs.map (Value.int .u8) = L := ⟨_, rfl⟩
   have hLl : L.length = 32 := by rw [← hL, List.length_map, hl]
   have hsz : (Try.prog.info? 37).map (·.size) = some L.length := by rw [hLl]; kernel_rfl
   have HSZ := Aside0.mk hsz
   have HU := Aside0.mk (show Try.prog.underlying 37 = _ from Try.underlying37)
   clear hsz
   rw [hL]
   have HL := Aside0.mk hL
   clear hL hLl
   have BK0 := Aside0.mk (show ((w.alloc (.cells #[.slice A0 l0.length c0, .slice A1 l1.length c1] 47)).alloc (.cells L.toArray 37)).heap[w.heap.size]? = some (.cells #[.slice A0 l0.length c0, .slice A1 l1.length c1] 47 (0, 0)) from (yek w _ _).1)
   have BH0 := Aside0.mk (show ((w.alloc (.cells #[.slice A0 l0.length c0, .slice A1 l1.length c1] 47)).alloc (.cells L.toArray 37)).heap[w.heap.size + 1]? = some (.cells L.toArray 37 (0, 0)) from (yek w _ _).2)
   have kz0 : ((w.alloc (.cells #[.slice A0 l0.length c0, .slice A1 l1.length c1] 47)).alloc (.cells L.toArray 37)).cell? ⟨w.heap.size, 0, none⟩ = some (.slice A0 l0.length c0) := (yaa BK0.out 0).trans rfl
   have kz1 : ((w.alloc (.cells #[.slice A0 l0.length c0, .slice A1 l1.length c1] 47)).alloc (.cells L.toArray 37)).cell? ⟨w.heap.size, 1, none⟩ = some (.slice A1 l1.length c1) := (yaa BK0.out 1).trans rfl
   go_enter Try.func8, Try.ntmps8
   go_wp2_with (first
    | (go_at_call 16; (with_reducible refine (ydd.calls _).mono ?_); rintro x w0 ⟨rfl, hb⟩; have HB0 := Aside0.mk hb; clear hb; have ky0_0 : w0.cell? ⟨w.heap.size, 0, none⟩ = some (.slice A0 l0.length c0) := (yaa (show w0.heap[w.heap.size]? = some (.cells #[.slice A0 l0.length c0, .slice A1 l1.length c1] 47 (0, 0)) from Z3_) 0).trans rfl; have ky1_0 : w0.cell? ⟨w.heap.size, 1, none⟩ = some (.slice A1 l1.length c1) := (yaa (show w0.heap[w.heap.size]? = some (.cells #[.slice A0 l0.length c0, .slice A1 l1.length c1] 47 (0, 0)) from Z3_) 1).trans rfl))
   go_ret
   exact ⟨rfl, Z1_⟩
 by_cases q1 : (1 : Int) < l1.length
 · clear hg
   have HR_l0 := Aside0.mk hr_l0
   have HR_l1 := Aside0.mk hr_l1
   have HR_l4 := Aside0.mk hr_l4
   clear hr_l0 hr_l1 hr_l4
   have H1 := Aside0.mk h1
   have H2 := Aside0.mk h2
   have H3 := Aside0.mk h3
   clear h1 h2 h3
   obtain ⟨L, hL⟩ : ∃ L, hs.map (Value.int .u8) = L := ⟨_, rfl⟩
   have hLl : L.length = 32 := by rw [← hL, List.length_map, hl]
   have hsz : (Try.prog.info? 37).map (·.size) = some L.length := by rw [hLl]; kernel_rfl
   have HSZ := Aside0.mk hsz
   have HU := Aside0.mk (show Try.prog.underlying 37 = _ from Try.underlying37)
   clear hsz
   rw [hL]
   have HL := Aside0.mk hL
   clear hL hLl
   have BK0 := Aside0.mk (show ((w.alloc (.cells #[.slice A0 l0.length c0, .slice A1 l1.length c1] 47)).alloc (.cells L.toArray 37)).heap[w.heap.size]? = some (.cells #[.slice A0 l0.length c0, .slice A1 l1.length c1] 47 (0, 0)) from (yek w _ _).1)
   have BH0 := Aside0.mk (show ((w.alloc (.cells #[.slice A0 l0.length c0, .slice A1 l1.length c1] 47)).alloc (.cells L.toArray 37)).heap[w.heap.size + 1]? = some (.cells L.toArray 37 (0, 0)) from (yek w _ _).2)
   have kz0 : ((w.alloc (.cells #[.slice A0 l0.length c0, .slice A1 l1.length c1] 47)).alloc (.cells L.toArray 37)).cell? ⟨w.heap.size, 0, none⟩ = some (.slice A0 l0.length c0) := (yaa BK0.out 0).trans rfl
   have kz1 : ((w.alloc (.cells #[.slice A0 l0.length c0, .slice A1 l1.length c1] 47)).alloc (.cells L.toArray 37)).cell? ⟨w.heap.size, 1, none⟩ = some (.slice A1 l1.length c1) := (yaa BK0.out 1).trans rfl
   go_enter Try.func8, Try.ntmps8
   go_wp2_with (first
    | (go_at_call 16; (with_reducible refine (ydd.calls _).mono ?_); rintro x w0 ⟨rfl, hb⟩; have HB0 := Aside0.mk hb; clear hb; have ky0_0 : w0.cell? ⟨w.heap.size, 0, none⟩ = some (.slice A0 l0.length c0) := (yaa (show w0.heap[w.heap.size]? = some (.cells #[.slice A0 l0.length c0, .slice A1 l1.length c1] 47 (0, 0)) from Z3_) 0).trans rfl; have ky1_0 : w0.cell? ⟨w.heap.size, 1, none⟩ = some (.slice A1 l1.length c1) := (yaa (show w0.heap[w.heap.size]? = some (.cells #[.slice A0 l0.length c0, .slice A1 l1.length c1] 47 (0, 0)) from Z3_) 1).trans rfl))
   go_ret
   exact ⟨rfl, Z1_⟩
 by_cases q2 : (300 : Int) < l4.length
 · clear hg
   have HR_l0 := Aside0.mk hr_l0
   have HR_l1 := Aside0.mk hr_l1
   have HR_l4 := Aside0.mk hr_l4
   clear hr_l0 hr_l1 hr_l4
   have H1 := Aside0.mk h1
   have H2 := Aside0.mk h2
   have H3 := Aside0.mk h3
   clear h1 h2 h3
   obtain ⟨L, hL⟩ : ∃ L, hs.map (Value.int .u8) = L := ⟨_, rfl⟩
   have hLl : L.length = 32 := by rw [← hL, List.length_map, hl]
   have hsz : (Try.prog.info? 37).map (·.size) = some L.length := by rw [hLl]; kernel_rfl
   have HSZ := Aside0.mk hsz
   have HU := Aside0.mk (show Try.prog.underlying 37 = _ from Try.underlying37)
   clear hsz
   rw [hL]
   have HL := Aside0.mk hL
   clear hL hLl
   have BK0 := Aside0.mk (show ((w.alloc (.cells #[.slice A0 l0.length c0, .slice A1 l1.length c1] 47)).alloc (.cells L.toArray 37)).heap[w.heap.size]? = some (.cells #[.slice A0 l0.length c0, .slice A1 l1.length c1] 47 (0, 0)) from (yek w _ _).1)
   have BH0 := Aside0.mk (show ((w.alloc (.cells #[.slice A0 l0.length c0, .slice A1 l1.length c1] 47)).alloc (.cells L.toArray 37)).heap[w.heap.size + 1]? = some (.cells L.toArray 37 (0, 0)) from (yek w _ _).2)
   have kz0 : ((w.alloc (.cells #[.slice A0 l0.length c0, .slice A1 l1.length c1] 47)).alloc (.cells L.toArray 37)).cell? ⟨w.heap.size, 0, none⟩ = some (.slice A0 l0.length c0) := (yaa BK0.out 0).trans rfl
   have kz1 : ((w.alloc (.cells #[.slice A0 l0.length c0, .slice A1 l1.length c1] 47)).alloc (.cells L.toArray 37)).cell? ⟨w.heap.size, 1, none⟩ = some (.slice A1 l1.length c1) := (yaa BK0.out 1).trans rfl
   go_enter Try.func8, Try.ntmps8
   go_wp2_with (first
    | (go_at_call 16; (with_reducible refine (ydd.calls _).mono ?_); rintro x w0 ⟨rfl, hb⟩; have HB0 := Aside0.mk hb; clear hb; have ky0_0 : w0.cell? ⟨w.heap.size, 0, none⟩ = some (.slice A0 l0.length c0) := (yaa (show w0.heap[w.heap.size]? = some (.cells #[.slice A0 l0.length c0, .slice A1 l1.length c1] 47 (0, 0)) from Z3_) 0).trans rfl; have ky1_0 : w0.cell? ⟨w.heap.size, 1, none⟩ = some (.slice A1 l1.length c1) := (yaa (show w0.heap[w.heap.size]? = some (.cells #[.slice A0 l0.length c0, .slice A1 l1.length c1] 47 (0, 0)) from Z3_) 1).trans rfl))
   go_ret
   exact ⟨rfl, Z1_⟩
 replace hg := ((hg.resolve_left q0).resolve_left q1).resolve_left q2
 cases rt with
 | false =>
  rw [if_neg (by simp), if_neg (by simp), if_neg (by simp)] at hg
  exact ydt.case_a k A0 c0 l0 A1 c1 l1 A4 c4 l4 s hs n e d n2 e2 w hr_l0 hc_l0 hr_l1 hc_l1 hr_l4 hc_l4 hl hs0 hs1 hp h1 h2 h3 q0 q1 q2 hg
 | true =>
  rw [if_pos rfl, if_pos rfl] at hg
  by_cases q3 : (64 : Int) < l4.length
  · rw [if_pos ⟨rfl, q3⟩] at hg
    exact ydt.case_c k A0 c0 l0 A1 c1 l1 A4 c4 l4 s hs n e d n2 e2 w hr_l0 hc_l0 hr_l1 hc_l1 hr_l4 hc_l4 hl hs0 hs1 hp h1 h2 h3 q0 q1 q2 q3 hg
  · rw [if_neg (fun e => q3 e.2)] at hg
    exact ydt.case_b k A0 c0 l0 A1 c1 l1 A4 c4 l4 s hs n e d n2 e2 w hr_l0 hc_l0 hr_l1 hc_l1 hr_l4 hc_l4 hl hs0 hs1 hp h1 h2 h3 q0 q1 q2 q3 hg
end Go.Proofs.Ytgnaaaliadiekaa.B
end
section
namespace Go.Proofs.Ytgnaaaliadiekaa.Q
open Go.RowKit Go.Proofs.Ytgnaaaliadiekaa.B Go.Proofs.YtgnaaaliadiekaaW.PrintWords Go.Proofs.YtgnaaaliadiekaaW.PrintLast Go.Proofs.YtgnaaaliadiekaaW.PrintMore
set_option linter.unusedVariables false
set_option linter.unusedSectionVars false
theorem rmul_idx (i j la lb lo d : Nat) (ha : la < 1099511627776) (hb : lb < 1099511627776) (hi : i < la) (hd : j + d = lb) (ho : lo = la + lb + 1) :
 wrap64 ((i : Int) + (j : Int)) = ((i + j : Nat) : Int) ∧ wrap64 ((j : Int) + 1) = ((j + 1 : Nat) : Int) ∧ (0 : Int) ≤ ((i + j : Nat) : Int) ∧ ((i + j : Nat) : Int) < (lo : Int) ∧ (0 : Int) ≤ (j : Int) := by
 refine ⟨w64 (by omega) (by omega), w64 (by omega) (by omega), ?_, ?_, ?_⟩ <;> omega
theorem prod16 {x y : Nat} (hx : x < 65536) (hy : y < 65536) : x * y ≤ 4294836225 := Nat.mul_le_mul (Nat.le_of_lt_succ hx) (Nat.le_of_lt_succ hy)
theorem rmul_num {x y o c : Nat} (hx : x < 65536) (hy : y < 65536) (ho : o < 65536) (hc : c < 65536) :
 wrap64 ((o + c : Nat) : Int) = ((o + c : Nat) : Int) ∧ wrap64 ((x * y : Nat) : Int) = ((x * y : Nat) : Int) ∧ wrap64 ((o + c + x * y : Nat) : Int) = ((o + c + x * y : Nat) : Int) ∧ (o + c + x * y) / 65536 < 65536 ∧ wrap64 (((o + c + x * y) / 65536 : Nat) : Int) = (((o + c + x * y) / 65536 : Nat) : Int) := by
 have hp := prod16 hx hy
 generalize x * y = p at *
 refine ⟨w64 (by omega) (by omega), w64 (by omega) (by omega), w64 (by omega) (by omega), by omega, w64 (by omega) (by omega)⟩
section
variable (a b : List Int) (hA : L16 a) (hB : L16 b) (ha : a.length < 1099511627776) (hb : b.length < 1099511627776)
include hA hB ha hb
theorem rMul_inner (i x : Nat) (V : Nat) (hi : i < a.length) (hxx : a.getD i 0 = (x : Int)) (hx : x < 65536) (r : List Int)
 (next : ∀ out : List Int, out.length = a.length + b.length + 1 → L16 out → vd out = V + 65536 ^ i * (x * vd b) → Ev (fun k => yaf.l0 k a b out ((i + 1 : Nat) : Int)) r) :
 ∀ (d j c : Nat) (out : List Int), j + d = b.length → out.length = a.length + b.length + 1 → L16 out → c < 65536 → out.getD (i + b.length) 0 = 0 →
 vd out + 65536 ^ (i + j) * c = V + 65536 ^ i * (x * low 65536 b j) →
 Ev (fun k => yaf.l1 k a b out (i : Int) (c : Int) (j : Int)) r := by
 have done : ∀ (j : Nat) (out : List Int), b.length ≤ j → out.length = a.length + b.length + 1 → L16 out → vd out = V + 65536 ^ i * (x * vd b) → Ev (fun k => yaf.l1 k a b out (i : Int) 0 (j : Int)) r := by
  intro j out hj ho hO hv
  refine Ev.step (f := fun k => yaf.j2 k a b out (i : Int) 0 (j : Int) false) (fun k => ?_) (Ev.step (f := fun k => yaf.l0 k a b out ((i + 1 : Nat) : Int)) (fun k => ?_) (next out ho hO hv))
  · simp only [yaf.l1]
    rw [if_neg (by omega)]
    rfl
  · simp only [yaf.j2]
    rw [if_neg (by decide), w64 (by omega) (by omega)]
    rfl
 intro d
 induction d with
 | zero =>
  intro j c out hd ho hO hc hz hv
  have hj : j = b.length := by omega
  subst hj
  rw [ydv _ b (Nat.le_refl _)] at hv
  rcases Nat.eq_zero_or_pos c with h0 | h0
  · subst h0
    exact done b.length out (Nat.le_refl _) ho hO hv
  · refine Ev.step (f := fun k => yaf.j2 k a b out (i : Int) (c : Int) (b.length : Int) true) (fun k => ?_) (Ev.step (f := fun k => yaf.l1 k a b (out.set (i + b.length) (c : Int)) (i : Int) 0 ((b.length + 1 : Nat) : Int)) (fun k => ?_) (done (b.length + 1) _ (Nat.le_succ _) Z29_ (Dig.set hO (by omega) (by omega)) ?_))
    · simp only [yaf.l1]
      rw [if_neg (by omega)]
      rw [show (decide ((c : Int) > 0)) = true from by simp; omega]
    · simp only [yaf.j2]
      rw [if_pos trivial, w64 (x := (i : Int) + (b.length : Int)) (by omega) (by omega), if_pos (by omega), if_pos (by omega), if_neg (by omega), show (i : Int) + (b.length : Int) = ((i + b.length : Nat) : Int) from by omega, ycp, hz, Int.toNat_natCast, Int.zero_add, w64 (x := (c : Int)) (by omega) (by omega), w64 (x := (b.length : Int) + 1) (by omega) (by omega)]
      rw [show Int.tmod (c : Int) 65536 = ((c % 65536 : Nat) : Int) from yfe c 65536, show Int.tdiv (c : Int) 65536 = ((c / 65536 : Nat) : Int) from yed c 65536, Nat.mod_eq_of_lt hc, Nat.div_eq_of_lt hc, show wrap64 ((0 : Nat) : Int) = 0 from w64 (by decide) (by decide)]
      rfl
    · have e := yea (B := 65536) out (i + b.length) c 0 (by omega) hz
      rw [Nat.mul_zero, Nat.add_zero] at e
      exact e.trans hv
 | succ d IH =>
  intro j c out hd ho hO hc hz hv
  have HV := Aside0.mk hv
  clear hv
  have h65 : 0 < 65536 := Nat.succ_pos _
  obtain ⟨y, hy, hy2⟩ := yct h65 hB j
  obtain ⟨o, hoo, ho2⟩ := yct h65 hO (i + j)
  obtain ⟨f1, f2, f3, f4, f6⟩ := rmul_idx i j a.length b.length out.length (d + 1) ha hb hi hd ho
  have g1 : j < b.length := Nat.lt_of_lt_of_le (Nat.lt_succ_of_le (Nat.le_add_right j d)) (Nat.le_of_eq hd)
  have f5 : (j : Int) < (b.length : Int) := Int.ofNat_lt.2 g1
  have g2 : i + j < out.length := Int.ofNat_lt.1 f4
  obtain ⟨n1, n2, n3, n4, n5⟩ := rmul_num hx hy2 ho2 hc
  have em := Nat.div_add_mod (o + c + x * y) 65536
  refine Ev.step (f := fun k => yaf.j2 k a b out (i : Int) (c : Int) (j : Int) true) (fun k => ?_)
   (Ev.step (f := fun k => yaf.l1 k a b (out.set (i + j) (((o + c + x * y) % 65536 : Nat) : Int)) (i : Int) (((o + c + x * y) / 65536 : Nat) : Int) ((j + 1 : Nat) : Int)) (fun k => ?_)
   (IH (j + 1) _ _ ((Nat.add_right_comm j 1 d).trans hd) Z29_ (Dig.set hO (Int.natCast_nonneg _) (Int.ofNat_lt.2 (Nat.mod_lt _ h65))) n4 ?_ ?_))
  · simp only [yaf.l1]
    rw [if_pos f5]
  · simp only [yaf.j2]
    rw [if_pos trivial, f1, if_pos f3, if_pos f4, if_pos f5, if_pos (Int.natCast_nonneg i), if_pos (Int.ofNat_lt.2 hi), if_pos f6, ycp, ycp, ycp, hoo, hy, hxx, mulN, addN, n1, n2, addN, n3, f2, Int.toNat_natCast]
    rw [show Int.tmod ((o + c + x * y : Nat) : Int) 65536 = (((o + c + x * y) % 65536 : Nat) : Int) from yfe _ 65536, show Int.tdiv ((o + c + x * y : Nat) : Int) 65536 = (((o + c + x * y) / 65536 : Nat) : Int) from yed _ 65536, n5]
  · rw [getD_set_ne _ _ _ _ (fun e => Nat.lt_irrefl _ (Nat.lt_of_lt_of_eq g1 (Nat.add_left_cancel e).symm))]
    exact hz
  · have hv := HV.out
    have e := yea (B := 65536) out (i + j) ((o + c + x * y) % 65536) o g2 hoo
    simp only [low]
    rw [hy, Int.toNat_natCast]
    have e3 : vd out + 65536 ^ (i + j) * c = V + (65536 ^ i * low 65536 b j) * x := by rw [hv]; grind
    have f := mul_step (B := 65536) (c := c) (x := x) (y := y) e (em.trans (by rw [Nat.add_comm, Nat.add_assoc])) e3
    show val 65536 _ + _ = _
    rw [show i + (j + 1) = i + j + 1 from rfl, Nat.pow_succ, f, Nat.pow_add]
    grind
theorem rMul_outer : ∀ (d i : Nat) (out : List Int), i + d = a.length → out.length = a.length + b.length + 1 → L16 out → vd out = low 65536 a i * vd b → Ev (fun k => yaf.l0 k a b out (i : Int)) (dd (vd a * vd b)) := by
 intro d
 induction d with
 | zero =>
  intro i out hd ho hO hv
  refine Ev.step (f := fun k => (yam.f k out).bind fun t => some t) (fun k => ?_) ?_
  · simp only [yaf.l0]
    rw [if_neg (by omega)]
  · refine Ev.bind (yhr hO (by omega)) (Ev.same (Ev.now _) ?_)
    rw [hv, ydv _ a (by omega)]
    rfl
 | succ d IH =>
  intro i out hd ho hO hv
  obtain ⟨x, hx, hx2⟩ := yct (by omega) hA i
  refine Ev.step (f := fun k => yaf.l1 k a b out (i : Int) ((0 : Nat) : Int) ((0 : Nat) : Int)) (fun k => ?_) ?_
  · simp only [yaf.l0]
    rw [if_pos (by omega)]
    rfl
  · have hlt : vd out < 65536 ^ (i + b.length) := by
     rw [hv, Nat.pow_add]
     exact Nat.mul_lt_mul'' (yfp (by omega) hA i) (ygo (by omega) hB)
    refine rMul_inner a b hA hB ha hb i x (vd out) (by omega) hx hx2 _ (fun out2 ho2 hO2 hv2 => IH (i + 1) out2 (by omega) ho2 hO2 ?_) b.length 0 0 out (by omega) ho hO (by omega) (yfd out _ hO hlt) ?_
    · rw [hv2, hv]
      simp only [low]
      rw [hx, Int.toNat_natCast]
      grind
    · simp [low]
end
theorem rMul_ev' {a b : List Int} (hA : L16 a) (hB : L16 b) (ha : a.length < 1099511627776) (hb : b.length < 1099511627776) : Ev (fun k => yaf.f k a b) (dd (vd a * vd b)) := by
 unfold yaf.f
 rw [w64 (x := (a.length : Int) + (b.length : Int)) (by omega) (by omega), w64 (by omega) (by omega)]
 refine Ev.congr (fun k => (if_pos (by omega)).trans (if_pos (by omega))) ?_
 refine rMul_outer a b hA hB ha hb a.length 0 _ (by omega) ?_ (Dig.zeros _ _ (by omega)) ?_
 · rw [List.length_replicate]
   omega
 · simp only [low, Nat.zero_mul]
   exact ygn _ _
theorem rMul_ev (m n : Nat) (hm : (dd m).length < 1099511627776) (hn : (dd n).length < 1099511627776) : Ev (fun k => yaf.f k (dd m) (dd n)) (dd (m * n)) := by
 have h := rMul_ev' (dd_L m) (dd_L n) hm hn
 rw [ygm, ygm] at h
 exact h
end Go.Proofs.Ytgnaaaliadiekaa.Q
end
section
namespace Go.Proofs.Ytgnaaaliadiekaa.Q
set_option linter.unusedVariables false
theorem kn_lt {P U3 V2 ul vl x : Nat} (hu : ul < P) (h : U3 < x * V2) : (U3 * P + ul) / (V2 * P + vl) < x := by
 by_cases h0 : V2 * P + vl = 0
 · rw [h0, Nat.div_zero]
   rcases Nat.eq_zero_or_pos x with hx | hx
   · subst hx
     rw [Nat.zero_mul] at h
     omega
   · exact hx
 · rw [Nat.div_lt_iff_lt_mul (by omega)]
   have h1 : (U3 + 1) * P ≤ x * V2 * P := Nat.mul_le_mul_right _ h
   have h2 : x * (V2 * P + vl) = x * V2 * P + x * vl := by rw [Nat.mul_add, Nat.mul_assoc]
   rw [Nat.add_mul, Nat.one_mul] at h1
   omega
theorem kn_le {B P U3 V2 ul vl x : Nat} (hv : vl < P) (hx : x < B) (hB : B ≤ V2) (h : x * V2 ≤ U3) : x ≤ (U3 * P + ul) / (V2 * P + vl) + 1 := by
 have hP : 0 < P := by omega
 have hV : 0 < V2 * P + vl := Nat.lt_of_lt_of_le (Nat.mul_pos (by omega) hP) (Nat.le_add_right _ _)
 rcases Nat.eq_zero_or_pos x with h0 | h0
 · rw [h0]
   exact Nat.zero_le _
 · obtain ⟨y, rfl⟩ : ∃ y, x = y + 1 := ⟨x - 1, by omega⟩
   refine Nat.succ_le_succ ?_
   rw [Nat.le_div_iff_mul_le hV]
   have h1 : (y + 1) * V2 * P ≤ U3 * P := Nat.mul_le_mul_right _ h
   have h2 : y * vl ≤ y * P := Nat.mul_le_mul_left _ (by omega)
   have h3 : y * P ≤ V2 * P := Nat.mul_le_mul_right _ (by omega)
   have h4 : y * (V2 * P + vl) = y * (V2 * P) + y * vl := Nat.mul_add _ _ _
   have h5 : (y + 1) * V2 * P = y * (V2 * P) + V2 * P := by rw [Nat.mul_assoc, Nat.add_mul, Nat.one_mul]
   omega
theorem yhn {U V q r : Nat} (h : U = q * V + r) (hr : r < V) : U / V = q ∧ U % V = r := by
 subst h
 have hV : 0 < V := by omega
 constructor
 · rw [Nat.add_comm, Nat.add_mul_div_right _ _ hV, Nat.div_eq_of_lt hr, Nat.zero_add]
 · rw [Nat.add_comm, Nat.add_mul_mod_self_right, Nat.mod_eq_of_lt hr]
theorem took_right {L W V x q R E : Nat} (hq1 : q ≤ x) (hq : q = W / V) (hV : 0 < V) (h : R + E * (x * V) = L + E * W) (hL : L < E) : x = q ∧ R + E * (q * V) = L + E * W := by
 have h1 : x ≤ q := by
  rw [hq, Nat.le_div_iff_mul_le hV]
  rcases Nat.lt_or_ge W (x * V) with hc | hc
  · have := Nat.mul_le_mul_left E hc
    rw [Nat.mul_succ] at this
    omega
  · exact hc
 have : x = q := Nat.le_antisymm h1 hq1
 subst this
 exact ⟨rfl, h⟩
theorem took_more {L W V x q R R2 E T k : Nat} (hx : x ≤ q + 1) (hq : q = W / V) (hV : 0 < V) (h : R + E * (x * V) = L + E * W + T) (hR : R < T) (h2 : R2 + T * k = R + E * V) (hR2 : R2 < T) (hk : k ≤ 1) : x = q + 1 ∧ R2 + E * (q * V) = L + E * W := by
 have hqV : q * V ≤ W := by rw [hq]; exact Nat.div_mul_le_self W V
 have h1 : x ≠ q := by
  rintro rfl
  have := Nat.mul_le_mul_left E hqV
  omega
 have h3 : q ≤ x → x = q + 1 := by omega
 have h4 : q ≤ x := by
  rcases Nat.lt_or_ge x q with hc | hc
  · have h5 : x * V ≤ q * V := Nat.mul_le_mul_right _ (by omega)
    have := Nat.mul_le_mul_left E (Nat.le_trans h5 hqV)
    omega
  · exact hc
 have hx1 := h3 h4
 subst hx1
 refine ⟨rfl, ?_⟩
 have h6 : E * ((q + 1) * V) = E * (q * V) + E * V := by rw [Nat.add_mul, Nat.one_mul, Nat.mul_add]
 have h7 := Nat.mul_le_mul_left E hqV
 have hk1 : k = 1 := by
  rcases Nat.eq_zero_or_pos k with h0 | h0
  · subst h0
    rw [Nat.mul_zero] at h2
    omega
  · omega
 subst hk1
 rw [Nat.mul_one] at h2
 omega
theorem low_top2 (B : Nat) (l : List Int) (n : Nat) (h : l.length = n + 2) : val B l = ((l.getD (n + 1) 0).toNat * B + (l.getD n 0).toNat) * B ^ n + val B (l.take n) := by
 have e1 := yec B l (n + 1) (by omega)
 have e2 := yec B l n (by omega)
 rw [show n + 1 + 1 = l.length from h.symm, List.take_length] at e1
 rw [e1, e2, Nat.pow_succ]
 grind
theorem low_top3 (B : Nat) (l : List Int) (n : Nat) (h : l.length = n + 3) : val B l = (((l.getD (n + 2) 0).toNat * B + (l.getD (n + 1) 0).toNat) * B + (l.getD n 0).toNat) * B ^ n + val B (l.take n) := by
 have e0 := yec B l (n + 2) (by omega)
 have e1 := yec B l (n + 1) (by omega)
 have e2 := yec B l n (by omega)
 rw [show n + 2 + 1 = l.length from h.symm, List.take_length] at e0
 rw [e0, e1, e2, Nat.pow_succ, show B ^ (n + 2) = B ^ n * B * B from by rw [Nat.pow_succ, Nat.pow_succ]]
 grind
end Go.Proofs.Ytgnaaaliadiekaa.Q
end
