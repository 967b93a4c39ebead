/- A part of the proof (merged by pack.py, a program of this session: what the row's proof names). -/
import Derived.Test.YtgnaaaliadiekaaM4
import Derived.Test.YtgnaaaliadiekaaM5
import Derived.Test.YtgnaaaliadiekaaM8
import Derived.Test.YtgnaaaliadiekaaM13
import Derived.Test.YtgnaaaliadiekaaM17
import Derived.Test.YtgnaaaliadiekaaM36
import Derived.Test.YtgnaaaliadiekaaM0
section
namespace Go.Proofs.Ytgnaaaliadiekaa.B
open Go.RowKit Go.Proofs.YtgnaaaliadiekaaW.PrintWords Go.Proofs.YtgnaaaliadiekaaW.PrintLast Go.Proofs.YtgnaaaliadiekaaW.PrintMore
set_option linter.unusedVariables false
set_option linter.unusedSimpArgs false
set_option maxHeartbeats 4000000 in
set_option maxRecDepth 100000 in
theorem ydt.case_a (k : Nat) (A0 : Option Addr) (c0 : Nat) (l0 : List Int) (A1 : Option Addr) (c1 : Nat) (l1 : List Int) (A4 : Option Addr) (c4 : Nat) (l4 : List Int) (s : Int) (hs : List Int) (n e d n2 e2 : List Int) (w : World) (hr_l0 : Kd.C (Kd.int .u64) w A0 l0.length l0) (hc_l0 : l0.length ≤ c0) (hr_l1 : Kd.C (Kd.int .u64) w A1 l1.length l1) (hc_l1 : l1.length ≤ c1) (hr_l4 : Kd.C (Kd.int .u8) w A4 l4.length l4) (hc_l4 : l4.length ≤ c4) (hl : hs.length = 32) (hs0 : 0 ≤ s) (hs1 : s < 256) (hp : 0 < n2.length) (h1 : ybk.f k s = some (n, e, d)) (h2 : yal.f k n = some n2) (h3 : yal.f k e = some e2) (q0 : ¬ (10 : Int) < l0.length) (q1 : ¬ (1 : Int) < l1.length) (q2 : ¬ (300 : Int) < l4.length)  (hg : VerOk k l0 l1 hs l4) :
 Calls Try.prog 8 #[.agg #[.slice A0 l0.length c0, .slice A1 l1.length c1], .int .u8 s, .bool false, .agg (hs.map (Value.int .u8)).toArray, .slice A4 l4.length c4] w fun x w' => x = .returned (.bool true) ∧ Below w.heap.size w w' := by
 have HR_l0 := Aside0.mk hr_l0
 have HR_l1 := Aside0.mk hr_l1
 have HR_l4 := Aside0.mk hr_l4
 clear hr_l0 hr_l1 hr_l4
 have H1 := Aside0.mk h1
 have H2 := Aside0.mk h2
 have H3 := Aside0.mk h3
 clear h1 h2 h3
 obtain ⟨L, hL⟩ : ∃ L, hs.map (Value.int .u8) = L := ⟨_, rfl⟩
 have hLl : L.length = 32 := by rw [← hL, List.length_map, hl]
 have hsz : (Try.prog.info? 37).map (·.size) = some L.length := by rw [hLl]; kernel_rfl
 have HSZ := Aside0.mk hsz
 have HU := Aside0.mk (show Try.prog.underlying 37 = _ from Try.underlying37)
 clear hsz
 rw [hL]
 have HL := Aside0.mk hL
 clear hL hLl
 have BK0 := Aside0.mk (show ((w.alloc (.cells #[.slice A0 l0.length c0, .slice A1 l1.length c1] 47)).alloc (.cells L.toArray 37)).heap[w.heap.size]? = some (.cells #[.slice A0 l0.length c0, .slice A1 l1.length c1] 47 (0, 0)) from (yek w _ _).1)
 have BH0 := Aside0.mk (show ((w.alloc (.cells #[.slice A0 l0.length c0, .slice A1 l1.length c1] 47)).alloc (.cells L.toArray 37)).heap[w.heap.size + 1]? = some (.cells L.toArray 37 (0, 0)) from (yek w _ _).2)
 have kz0 : ((w.alloc (.cells #[.slice A0 l0.length c0, .slice A1 l1.length c1] 47)).alloc (.cells L.toArray 37)).cell? ⟨w.heap.size, 0, none⟩ = some (.slice A0 l0.length c0) := (yaa BK0.out 0).trans rfl
 have kz1 : ((w.alloc (.cells #[.slice A0 l0.length c0, .slice A1 l1.length c1] 47)).alloc (.cells L.toArray 37)).cell? ⟨w.heap.size, 1, none⟩ = some (.slice A1 l1.length c1) := (yaa BK0.out 1).trans rfl
 obtain ⟨x, y, p, q, b, r, j1, j2, j3, j4, j5, j6, j7⟩ := hg
 have J1 := Aside0.mk j1
 have J2 := Aside0.mk j2
 have J3 := Aside0.mk j3
 have J4 := Aside0.mk j4
 have J6 := Aside0.mk j6
 clear j1 j2 j3 j4 j6
 by_cases p0 : 0 < p
 · by_cases q0 : 0 < q
   · have J5 := Aside0.mk (j5 p0 q0)
     clear j5
     cases b with
     | true =>
      obtain rfl : r = true := by rw [j7, if_pos ⟨p0, q0, rfl⟩]
      clear j7
      go_enter Try.func8, Try.ntmps8
      go_wp2_with (first
       | (go_at_call 16; (with_reducible refine (ydd.calls _).mono ?_); rintro x w0 ⟨rfl, hb⟩; have HB0 := Aside0.mk hb; clear hb; have ky0_0 : w0.cell? ⟨w.heap.size, 0, none⟩ = some (.slice A0 l0.length c0) := (yaa (show w0.heap[w.heap.size]? = some (.cells #[.slice A0 l0.length c0, .slice A1 l1.length c1] 47 (0, 0)) from Z3_) 0).trans rfl; have ky1_0 : w0.cell? ⟨w.heap.size, 1, none⟩ = some (.slice A1 l1.length c1) := (yaa (show w0.heap[w.heap.size]? = some (.cells #[.slice A0 l0.length c0, .slice A1 l1.length c1] 47 (0, 0)) from Z3_) 1).trans rfl)
       | (go_at_call 12; (with_reducible refine (yah.calls k _ _ l0 x _ ?s0 ?c0 J1.out).mono ?_); (case s0 => exact Z2_); (case c0 => assumption); rintro e wb1 ⟨v, rfl, ho, hb⟩; obtain ⟨Ab1, cb1, rfl⟩ := Kd.ybc ho; have HCb1 := Aside0.mk (Kd.R_reads' ho).2.2; have hcb1 := (Kd.R_reads' ho).2.1; have HBb1 := Aside0.mk hb; have HOb1 := Aside0.mk ho; clear hb ho; have ky0_b1 : wb1.cell? ⟨w.heap.size, 0, none⟩ = some (.slice A0 l0.length c0) := (yaa (show wb1.heap[w.heap.size]? = some (.cells #[.slice A0 l0.length c0, .slice A1 l1.length c1] 47 (0, 0)) from Z3_) 0).trans rfl; have ky1_b1 : wb1.cell? ⟨w.heap.size, 1, none⟩ = some (.slice A1 l1.length c1) := (yaa (show wb1.heap[w.heap.size]? = some (.cells #[.slice A0 l0.length c0, .slice A1 l1.length c1] 47 (0, 0)) from Z3_) 1).trans rfl)
       | (go_at_call 14; (with_reducible refine (yaq.calls k _ _ x p _ ?s0 ?c0 J2.out).mono ?_); (case s0 => exact Z2_); (case c0 => assumption); rintro e wb2 ⟨rfl, hq⟩; have HBb2 := Aside0.mk Z28_; clear hq; have ky0_b2 : wb2.cell? ⟨w.heap.size, 0, none⟩ = some (.slice A0 l0.length c0) := (yaa (show wb2.heap[w.heap.size]? = some (.cells #[.slice A0 l0.length c0, .slice A1 l1.length c1] 47 (0, 0)) from Z3_) 0).trans rfl; have ky1_b2 : wb2.cell? ⟨w.heap.size, 1, none⟩ = some (.slice A1 l1.length c1) := (yaa (show wb2.heap[w.heap.size]? = some (.cells #[.slice A0 l0.length c0, .slice A1 l1.length c1] 47 (0, 0)) from Z3_) 1).trans rfl)
       | (go_at_call 12; (with_reducible refine (yah.calls k _ _ l1 y _ ?s0 ?c0 J3.out).mono ?_); (case s0 => exact Z2_); (case c0 => assumption); rintro e wb3 ⟨v, rfl, ho, hb⟩; obtain ⟨Ab3, cb3, rfl⟩ := Kd.ybc ho; have HCb3 := Aside0.mk (Kd.R_reads' ho).2.2; have hcb3 := (Kd.R_reads' ho).2.1; have HBb3 := Aside0.mk hb; have HOb3 := Aside0.mk ho; clear hb ho; have ky0_b3 : wb3.cell? ⟨w.heap.size, 0, none⟩ = some (.slice A0 l0.length c0) := (yaa (show wb3.heap[w.heap.size]? = some (.cells #[.slice A0 l0.length c0, .slice A1 l1.length c1] 47 (0, 0)) from Z3_) 0).trans rfl; have ky1_b3 : wb3.cell? ⟨w.heap.size, 1, none⟩ = some (.slice A1 l1.length c1) := (yaa (show wb3.heap[w.heap.size]? = some (.cells #[.slice A0 l0.length c0, .slice A1 l1.length c1] 47 (0, 0)) from Z3_) 1).trans rfl)
       | (go_at_call 14; (with_reducible refine (yaq.calls k _ _ y q _ ?s0 ?c0 J4.out).mono ?_); (case s0 => exact Z2_); (case c0 => assumption); rintro e wb4 ⟨rfl, hq⟩; have HBb4 := Aside0.mk Z28_; clear hq; have ky0_b4 : wb4.cell? ⟨w.heap.size, 0, none⟩ = some (.slice A0 l0.length c0) := (yaa (show wb4.heap[w.heap.size]? = some (.cells #[.slice A0 l0.length c0, .slice A1 l1.length c1] 47 (0, 0)) from Z3_) 0).trans rfl; have ky1_b4 : wb4.cell? ⟨w.heap.size, 1, none⟩ = some (.slice A1 l1.length c1) := (yaa (show wb4.heap[w.heap.size]? = some (.cells #[.slice A0 l0.length c0, .slice A1 l1.length c1] 47 (0, 0)) from Z3_) 1).trans rfl)
       | ((with_reducible refine ybu (N := 56) rfl ?_); refine ydf rfl rfl _ _ rfl _ _ rfl L _ (ycu Z3_) HU.out rfl HSZ.out ?_)
       | (go_at_call 31; refine (yby.ydy k _ _ l0 _ _ l1 _ _ l4 _ hs L.toArray true _ ?s0 ?c0 ?s1 ?c1 ?s2 ?c2 hl (by rw [HL.out]) rfl J5.out).mono ?_; (case s0 => exact Z2_); (case c0 => assumption); (case s1 => exact Z2_); (case c1 => assumption); (case s2 => exact Z2_); (case c2 => assumption); rintro e wb5 ⟨rfl, hb⟩; have HBb5 := Aside0.mk hb; clear hb; have ky0_b5 : wb5.cell? ⟨w.heap.size, 0, none⟩ = some (.slice A0 l0.length c0) := (yaa (show wb5.heap[w.heap.size]? = some (.cells #[.slice A0 l0.length c0, .slice A1 l1.length c1] 47 (0, 0)) from Z3_) 0).trans rfl; have ky1_b5 : wb5.cell? ⟨w.heap.size, 1, none⟩ = some (.slice A1 l1.length c1) := (yaa (show wb5.heap[w.heap.size]? = some (.cells #[.slice A0 l0.length c0, .slice A1 l1.length c1] 47 (0, 0)) from Z3_) 1).trans rfl)
       | ((with_reducible refine ybu (N := 61) rfl ?_); refine ydf rfl rfl _ _ rfl _ _ rfl L _ (ycu Z3_) HU.out rfl HSZ.out ?_)
       | (go_at_call 30; refine (ycz.ydy k _ _ l0 _ _ l1 _ _ l4 _ hs L.toArray true _ ?s0 ?c0 ?s1 ?c1 ?s2 ?c2 hl (by rw [HL.out]) rfl J6.out).mono ?_; (case s0 => exact Z2_); (case c0 => assumption); (case s1 => exact Z2_); (case c1 => assumption); (case s2 => exact Z2_); (case c2 => assumption); rintro e wb6 ⟨rfl, hb⟩; have HBb6 := Aside0.mk hb; clear hb))
      all_goals go_ret
      all_goals exact ⟨by first | rfl | simp, Z1_⟩
     | false =>
      obtain rfl : r = false := by rw [j7, if_neg (by simp)]
      clear j7
      go_enter Try.func8, Try.ntmps8
      go_wp2_with (first
       | (go_at_call 16; (with_reducible refine (ydd.calls _).mono ?_); rintro x w0 ⟨rfl, hb⟩; have HB0 := Aside0.mk hb; clear hb; have ky0_0 : w0.cell? ⟨w.heap.size, 0, none⟩ = some (.slice A0 l0.length c0) := (yaa (show w0.heap[w.heap.size]? = some (.cells #[.slice A0 l0.length c0, .slice A1 l1.length c1] 47 (0, 0)) from Z3_) 0).trans rfl; have ky1_0 : w0.cell? ⟨w.heap.size, 1, none⟩ = some (.slice A1 l1.length c1) := (yaa (show w0.heap[w.heap.size]? = some (.cells #[.slice A0 l0.length c0, .slice A1 l1.length c1] 47 (0, 0)) from Z3_) 1).trans rfl)
       | (go_at_call 12; (with_reducible refine (yah.calls k _ _ l0 x _ ?s0 ?c0 J1.out).mono ?_); (case s0 => exact Z2_); (case c0 => assumption); rintro e wb1 ⟨v, rfl, ho, hb⟩; obtain ⟨Ab1, cb1, rfl⟩ := Kd.ybc ho; have HCb1 := Aside0.mk (Kd.R_reads' ho).2.2; have hcb1 := (Kd.R_reads' ho).2.1; have HBb1 := Aside0.mk hb; have HOb1 := Aside0.mk ho; clear hb ho; have ky0_b1 : wb1.cell? ⟨w.heap.size, 0, none⟩ = some (.slice A0 l0.length c0) := (yaa (show wb1.heap[w.heap.size]? = some (.cells #[.slice A0 l0.length c0, .slice A1 l1.length c1] 47 (0, 0)) from Z3_) 0).trans rfl; have ky1_b1 : wb1.cell? ⟨w.heap.size, 1, none⟩ = some (.slice A1 l1.length c1) := (yaa (show wb1.heap[w.heap.size]? = some (.cells #[.slice A0 l0.length c0, .slice A1 l1.length c1] 47 (0, 0)) from Z3_) 1).trans rfl)
       | (go_at_call 14; (with_reducible refine (yaq.calls k _ _ x p _ ?s0 ?c0 J2.out).mono ?_); (case s0 => exact Z2_); (case c0 => assumption); rintro e wb2 ⟨rfl, hq⟩; have HBb2 := Aside0.mk Z28_; clear hq; have ky0_b2 : wb2.cell? ⟨w.heap.size, 0, none⟩ = some (.slice A0 l0.length c0) := (yaa (show wb2.heap[w.heap.size]? = some (.cells #[.slice A0 l0.length c0, .slice A1 l1.length c1] 47 (0, 0)) from Z3_) 0).trans rfl; have ky1_b2 : wb2.cell? ⟨w.heap.size, 1, none⟩ = some (.slice A1 l1.length c1) := (yaa (show wb2.heap[w.heap.size]? = some (.cells #[.slice A0 l0.length c0, .slice A1 l1.length c1] 47 (0, 0)) from Z3_) 1).trans rfl)
       | (go_at_call 12; (with_reducible refine (yah.calls k _ _ l1 y _ ?s0 ?c0 J3.out).mono ?_); (case s0 => exact Z2_); (case c0 => assumption); rintro e wb3 ⟨v, rfl, ho, hb⟩; obtain ⟨Ab3, cb3, rfl⟩ := Kd.ybc ho; have HCb3 := Aside0.mk (Kd.R_reads' ho).2.2; have hcb3 := (Kd.R_reads' ho).2.1; have HBb3 := Aside0.mk hb; have HOb3 := Aside0.mk ho; clear hb ho; have ky0_b3 : wb3.cell? ⟨w.heap.size, 0, none⟩ = some (.slice A0 l0.length c0) := (yaa (show wb3.heap[w.heap.size]? = some (.cells #[.slice A0 l0.length c0, .slice A1 l1.length c1] 47 (0, 0)) from Z3_) 0).trans rfl; have ky1_b3 : wb3.cell? ⟨w.heap.size, 1, none⟩ = some (.slice A1 l1.length c1) := (yaa (show wb3.heap[w.heap.size]? = some (.cells #[.slice A0 l0.length c0, .slice A1 l1.length c1] 47 (0, 0)) from Z3_) 1).trans rfl)
       | (go_at_call 14; (with_reducible refine (yaq.calls k _ _ y q _ ?s0 ?c0 J4.out).mono ?_); (case s0 => exact Z2_); (case c0 => assumption); rintro e wb4 ⟨rfl, hq⟩; have HBb4 := Aside0.mk Z28_; clear hq; have ky0_b4 : wb4.cell? ⟨w.heap.size, 0, none⟩ = some (.slice A0 l0.length c0) := (yaa (show wb4.heap[w.heap.size]? = some (.cells #[.slice A0 l0.length c0, .slice A1 l1.length c1] 47 (0, 0)) from Z3_) 0).trans rfl; have ky1_b4 : wb4.cell? ⟨w.heap.size, 1, none⟩ = some (.slice A1 l1.length c1) := (yaa (show wb4.heap[w.heap.size]? = some (.cells #[.slice A0 l0.length c0, .slice A1 l1.length c1] 47 (0, 0)) from Z3_) 1).trans rfl)
       | ((with_reducible refine ybu (N := 56) rfl ?_); refine ydf rfl rfl _ _ rfl _ _ rfl L _ (ycu Z3_) HU.out rfl HSZ.out ?_)
       | (go_at_call 31; refine (yby.ydy k _ _ l0 _ _ l1 _ _ l4 _ hs L.toArray false _ ?s0 ?c0 ?s1 ?c1 ?s2 ?c2 hl (by rw [HL.out]) rfl J5.out).mono ?_; (case s0 => exact Z2_); (case c0 => assumption); (case s1 => exact Z2_); (case c1 => assumption); (case s2 => exact Z2_); (case c2 => assumption); rintro e wb5 ⟨rfl, hb⟩; have HBb5 := Aside0.mk hb; clear hb; have ky0_b5 : wb5.cell? ⟨w.heap.size, 0, none⟩ = some (.slice A0 l0.length c0) := (yaa (show wb5.heap[w.heap.size]? = some (.cells #[.slice A0 l0.length c0, .slice A1 l1.length c1] 47 (0, 0)) from Z3_) 0).trans rfl; have ky1_b5 : wb5.cell? ⟨w.heap.size, 1, none⟩ = some (.slice A1 l1.length c1) := (yaa (show wb5.heap[w.heap.size]? = some (.cells #[.slice A0 l0.length c0, .slice A1 l1.length c1] 47 (0, 0)) from Z3_) 1).trans rfl)
       | ((with_reducible refine ybu (N := 61) rfl ?_); refine ydf rfl rfl _ _ rfl _ _ rfl L _ (ycu Z3_) HU.out rfl HSZ.out ?_)
       | (go_at_call 30; refine (ycz.ydy k _ _ l0 _ _ l1 _ _ l4 _ hs L.toArray false _ ?s0 ?c0 ?s1 ?c1 ?s2 ?c2 hl (by rw [HL.out]) rfl J6.out).mono ?_; (case s0 => exact Z2_); (case c0 => assumption); (case s1 => exact Z2_); (case c1 => assumption); (case s2 => exact Z2_); (case c2 => assumption); rintro e wb6 ⟨rfl, hb⟩; have HBb6 := Aside0.mk hb; clear hb))
      all_goals go_ret
      all_goals exact ⟨by first | rfl | simp, Z1_⟩
   · clear j5
     obtain rfl : r = false := by rw [j7, if_neg (fun e => q0 e.2.1)]
     clear j7
     go_enter Try.func8, Try.ntmps8
     go_wp2_with (first
      | (go_at_call 16; (with_reducible refine (ydd.calls _).mono ?_); rintro x w0 ⟨rfl, hb⟩; have HB0 := Aside0.mk hb; clear hb; have ky0_0 : w0.cell? ⟨w.heap.size, 0, none⟩ = some (.slice A0 l0.length c0) := (yaa (show w0.heap[w.heap.size]? = some (.cells #[.slice A0 l0.length c0, .slice A1 l1.length c1] 47 (0, 0)) from Z3_) 0).trans rfl; have ky1_0 : w0.cell? ⟨w.heap.size, 1, none⟩ = some (.slice A1 l1.length c1) := (yaa (show w0.heap[w.heap.size]? = some (.cells #[.slice A0 l0.length c0, .slice A1 l1.length c1] 47 (0, 0)) from Z3_) 1).trans rfl)
      | (go_at_call 12; (with_reducible refine (yah.calls k _ _ l0 x _ ?s0 ?c0 J1.out).mono ?_); (case s0 => exact Z2_); (case c0 => assumption); rintro e wb1 ⟨v, rfl, ho, hb⟩; obtain ⟨Ab1, cb1, rfl⟩ := Kd.ybc ho; have HCb1 := Aside0.mk (Kd.R_reads' ho).2.2; have hcb1 := (Kd.R_reads' ho).2.1; have HBb1 := Aside0.mk hb; have HOb1 := Aside0.mk ho; clear hb ho; have ky0_b1 : wb1.cell? ⟨w.heap.size, 0, none⟩ = some (.slice A0 l0.length c0) := (yaa (show wb1.heap[w.heap.size]? = some (.cells #[.slice A0 l0.length c0, .slice A1 l1.length c1] 47 (0, 0)) from Z3_) 0).trans rfl; have ky1_b1 : wb1.cell? ⟨w.heap.size, 1, none⟩ = some (.slice A1 l1.length c1) := (yaa (show wb1.heap[w.heap.size]? = some (.cells #[.slice A0 l0.length c0, .slice A1 l1.length c1] 47 (0, 0)) from Z3_) 1).trans rfl)
      | (go_at_call 14; (with_reducible refine (yaq.calls k _ _ x p _ ?s0 ?c0 J2.out).mono ?_); (case s0 => exact Z2_); (case c0 => assumption); rintro e wb2 ⟨rfl, hq⟩; have HBb2 := Aside0.mk Z28_; clear hq; have ky0_b2 : wb2.cell? ⟨w.heap.size, 0, none⟩ = some (.slice A0 l0.length c0) := (yaa (show wb2.heap[w.heap.size]? = some (.cells #[.slice A0 l0.length c0, .slice A1 l1.length c1] 47 (0, 0)) from Z3_) 0).trans rfl; have ky1_b2 : wb2.cell? ⟨w.heap.size, 1, none⟩ = some (.slice A1 l1.length c1) := (yaa (show wb2.heap[w.heap.size]? = some (.cells #[.slice A0 l0.length c0, .slice A1 l1.length c1] 47 (0, 0)) from Z3_) 1).trans rfl)
      | (go_at_call 12; (with_reducible refine (yah.calls k _ _ l1 y _ ?s0 ?c0 J3.out).mono ?_); (case s0 => exact Z2_); (case c0 => assumption); rintro e wb3 ⟨v, rfl, ho, hb⟩; obtain ⟨Ab3, cb3, rfl⟩ := Kd.ybc ho; have HCb3 := Aside0.mk (Kd.R_reads' ho).2.2; have hcb3 := (Kd.R_reads' ho).2.1; have HBb3 := Aside0.mk hb; have HOb3 := Aside0.mk ho; clear hb ho; have ky0_b3 : wb3.cell? ⟨w.heap.size, 0, none⟩ = some (.slice A0 l0.length c0) := (yaa (show wb3.heap[w.heap.size]? = some (.cells #[.slice A0 l0.length c0, .slice A1 l1.length c1] 47 (0, 0)) from Z3_) 0).trans rfl; have ky1_b3 : wb3.cell? ⟨w.heap.size, 1, none⟩ = some (.slice A1 l1.length c1) := (yaa (show wb3.heap[w.heap.size]? = some (.cells #[.slice A0 l0.length c0, .slice A1 l1.length c1] 47 (0, 0)) from Z3_) 1).trans rfl)
      | (go_at_call 14; (with_reducible refine (yaq.calls k _ _ y q _ ?s0 ?c0 J4.out).mono ?_); (case s0 => exact Z2_); (case c0 => assumption); rintro e wb4 ⟨rfl, hq⟩; have HBb4 := Aside0.mk Z28_; clear hq; have ky0_b4 : wb4.cell? ⟨w.heap.size, 0, none⟩ = some (.slice A0 l0.length c0) := (yaa (show wb4.heap[w.heap.size]? = some (.cells #[.slice A0 l0.length c0, .slice A1 l1.length c1] 47 (0, 0)) from Z3_) 0).trans rfl; have ky1_b4 : wb4.cell? ⟨w.heap.size, 1, none⟩ = some (.slice A1 l1.length c1) := (yaa (show wb4.heap[w.heap.size]? = some (.cells #[.slice A0 l0.length c0, .slice A1 l1.length c1] 47 (0, 0)) from Z3_) 1).trans rfl)
      | ((with_reducible refine ybu (N := 61) rfl ?_); refine ydf rfl rfl _ _ rfl _ _ rfl L _ (ycu Z3_) HU.out rfl HSZ.out ?_)
      | (go_at_call 30; refine (ycz.ydy k _ _ l0 _ _ l1 _ _ l4 _ hs L.toArray false _ ?s0 ?c0 ?s1 ?c1 ?s2 ?c2 hl (by rw [HL.out]) rfl J6.out).mono ?_; (case s0 => exact Z2_); (case c0 => assumption); (case s1 => exact Z2_); (case c1 => assumption); (case s2 => exact Z2_); (case c2 => assumption); rintro e wb6 ⟨rfl, hb⟩; have HBb6 := Aside0.mk hb; clear hb))
     all_goals go_ret
     all_goals exact ⟨by first | rfl | simp, Z1_⟩
 · clear j5
   obtain rfl : r = false := by rw [j7, if_neg (fun e => p0 e.1)]
   clear j7
   go_enter Try.func8, Try.ntmps8
   go_wp2_with (first
    | (go_at_call 16; (with_reducible refine (ydd.calls _).mono ?_); rintro x w0 ⟨rfl, hb⟩; have HB0 := Aside0.mk hb; clear hb; have ky0_0 : w0.cell? ⟨w.heap.size, 0, none⟩ = some (.slice A0 l0.length c0) := (yaa (show w0.heap[w.heap.size]? = some (.cells #[.slice A0 l0.length c0, .slice A1 l1.length c1] 47 (0, 0)) from Z3_) 0).trans rfl; have ky1_0 : w0.cell? ⟨w.heap.size, 1, none⟩ = some (.slice A1 l1.length c1) := (yaa (show w0.heap[w.heap.size]? = some (.cells #[.slice A0 l0.length c0, .slice A1 l1.length c1] 47 (0, 0)) from Z3_) 1).trans rfl)
    | (go_at_call 12; (with_reducible refine (yah.calls k _ _ l0 x _ ?s0 ?c0 J1.out).mono ?_); (case s0 => exact Z2_); (case c0 => assumption); rintro e wb1 ⟨v, rfl, ho, hb⟩; obtain ⟨Ab1, cb1, rfl⟩ := Kd.ybc ho; have HCb1 := Aside0.mk (Kd.R_reads' ho).2.2; have hcb1 := (Kd.R_reads' ho).2.1; have HBb1 := Aside0.mk hb; have HOb1 := Aside0.mk ho; clear hb ho; have ky0_b1 : wb1.cell? ⟨w.heap.size, 0, none⟩ = some (.slice A0 l0.length c0) := (yaa (show wb1.heap[w.heap.size]? = some (.cells #[.slice A0 l0.length c0, .slice A1 l1.length c1] 47 (0, 0)) from Z3_) 0).trans rfl; have ky1_b1 : wb1.cell? ⟨w.heap.size, 1, none⟩ = some (.slice A1 l1.length c1) := (yaa (show wb1.heap[w.heap.size]? = some (.cells #[.slice A0 l0.length c0, .slice A1 l1.length c1] 47 (0, 0)) from Z3_) 1).trans rfl)
    | (go_at_call 14; (with_reducible refine (yaq.calls k _ _ x p _ ?s0 ?c0 J2.out).mono ?_); (case s0 => exact Z2_); (case c0 => assumption); rintro e wb2 ⟨rfl, hq⟩; have HBb2 := Aside0.mk Z28_; clear hq; have ky0_b2 : wb2.cell? ⟨w.heap.size, 0, none⟩ = some (.slice A0 l0.length c0) := (yaa (show wb2.heap[w.heap.size]? = some (.cells #[.slice A0 l0.length c0, .slice A1 l1.length c1] 47 (0, 0)) from Z3_) 0).trans rfl; have ky1_b2 : wb2.cell? ⟨w.heap.size, 1, none⟩ = some (.slice A1 l1.length c1) := (yaa (show wb2.heap[w.heap.size]? = some (.cells #[.slice A0 l0.length c0, .slice A1 l1.length c1] 47 (0, 0)) from Z3_) 1).trans rfl)
    | ((with_reducible refine ybu (N := 61) rfl ?_); refine ydf rfl rfl _ _ rfl _ _ rfl L _ (ycu Z3_) HU.out rfl HSZ.out ?_)
    | (go_at_call 30; refine (ycz.ydy k _ _ l0 _ _ l1 _ _ l4 _ hs L.toArray false _ ?s0 ?c0 ?s1 ?c1 ?s2 ?c2 hl (by rw [HL.out]) rfl J6.out).mono ?_; (case s0 => exact Z2_); (case c0 => assumption); (case s1 => exact Z2_); (case c1 => assumption); (case s2 => exact Z2_); (case c2 => assumption); rintro e wb6 ⟨rfl, hb⟩; have HBb6 := Aside0.mk hb; clear hb))
   all_goals go_ret
   all_goals exact ⟨by first | rfl | simp, Z1_⟩
end Go.Proofs.Ytgnaaaliadiekaa.B
end
