/- A part of the proof (merged by pack.py, a program of this session: what the row's proof names). -/
import Derived.Test.YtgnaaaliadiekaaM4
import Derived.Test.YtgnaaaliadiekaaM6
import Derived.Test.YtgnaaaliadiekaaM13
import Derived.Test.YtgnaaaliadiekaaM14
import Derived.Test.YtgnaaaliadiekaaM17
import Derived.Test.YtgnaaaliadiekaaM22
import Derived.Test.YtgnaaaliadiekaaM23
import Derived.Test.YtgnaaaliadiekaaM24
import Derived.Test.YtgnaaaliadiekaaM35
import Derived.Test.YtgnaaaliadiekaaM0
section
namespace Go.Proofs.Ytgnaaaliadiekaa.B
open Go.RowKit Go.Proofs.YtgnaaaliadiekaaW.PrintWords Go.Proofs.YtgnaaaliadiekaaW.PrintLast Go.Proofs.YtgnaaaliadiekaaW.PrintMore
set_option linter.unusedVariables false
set_option linter.unusedSimpArgs false
def yby.f (k : Nat) (l0 l1 hs l2 : List Int) : Option Bool :=
 (ybf.f k l0 l1).bind fun c => if c = true then (ybd.f k l0 l1).bind fun z => if (l2.length : Int) = z then (yah.f k l0).bind fun n => (yak.f k l2).bind fun s => (yas.f k s n).bind fun q => if q < 0 then (yah.f k l1).bind fun e => (ybh.f k s e n).bind fun m => (yak.f k (yfo (l2.length : Int) hs)).bind fun p => (yas.f k m p).bind fun u => some (decide (u = 0)) else some false else some false else some false
set_option maxHeartbeats 4000000 in
set_option maxRecDepth 100000 in
theorem yby.calls (k : Nat) (A0 : Option Addr) (c0 : Nat) (l0 : List Int) (A1 : Option Addr) (c1 : Nat) (l1 : List Int) (A2 : Option Addr) (c2 : Nat) (l2 : List Int) (hs : List Int) (r : Bool) (w : World) (hr_l0 : Kd.C (Kd.int .u64) w A0 l0.length l0) (hc_l0 : l0.length ≤ c0) (hr_l1 : Kd.C (Kd.int .u64) w A1 l1.length l1) (hc_l1 : l1.length ≤ c1) (hr_l2 : Kd.C (Kd.int .u8) w A2 l2.length l2) (hc_l2 : l2.length ≤ c2) (hl : hs.length = 32) (h : yby.f k l0 l1 hs l2 = some r) :
 Calls Try.prog 31 #[.agg #[.slice A0 l0.length c0, .slice A1 l1.length c1], .agg (hs.map (Value.int .u8)).toArray, .slice A2 l2.length c2] w fun e w' => e = .returned (.bool r) ∧ Below w.heap.size w w' := by
 have HR_l0 := Aside0.mk hr_l0
 have HR_l1 := Aside0.mk hr_l1
 have HR_l2 := Aside0.mk hr_l2
 clear hr_l0 hr_l1 hr_l2
 obtain ⟨L, hL⟩ : ∃ L, hs.map (Value.int .u8) = L := ⟨_, rfl⟩
 have hLl : L.length = 32 := by rw [← hL, List.length_map, hl]
 have hsz : (Try.prog.info? 37).map (·.size) = some L.length := by rw [hLl]; kernel_rfl
 have HSZ := Aside0.mk hsz
 have HU := Aside0.mk (show Try.prog.underlying 37 = _ from Try.underlying37)
 clear hsz
 rw [hL]
 have HL := Aside0.mk hL
 clear hL
 have BK0 := Aside0.mk (show ((w.alloc (.cells #[.slice A0 l0.length c0, .slice A1 l1.length c1] 47)).alloc (.cells L.toArray 37)).heap[w.heap.size]? = some (.cells #[.slice A0 l0.length c0, .slice A1 l1.length c1] 47 (0, 0)) from (yek w _ _).1)
 have HR0 := Aside0.mk (show ((w.alloc (.cells #[.slice A0 l0.length c0, .slice A1 l1.length c1] 47)).alloc (.cells L.toArray 37)).rangeAt (w.heap.size + 1) 0 L from ycu (yek w _ _).2)
 have kz0 : ((w.alloc (.cells #[.slice A0 l0.length c0, .slice A1 l1.length c1] 47)).alloc (.cells L.toArray 37)).cell? ⟨w.heap.size, 0, none⟩ = some (.slice A0 l0.length c0) := (yaa BK0.out 0).trans rfl
 have kz1 : ((w.alloc (.cells #[.slice A0 l0.length c0, .slice A1 l1.length c1] 47)).alloc (.cells L.toArray 37)).cell? ⟨w.heap.size, 1, none⟩ = some (.slice A1 l1.length c1) := (yaa BK0.out 1).trans rfl
 unfold yby.f at h
 obtain ⟨c, h1, h⟩ := Option.bind_eq_some_iff.mp h
 have H1 := Aside0.mk h1
 clear h1
 cases c with
 | false =>
  rw [if_neg (by simp)] at h
  obtain rfl := Option.some.inj h
  clear h
  go_enter Try.func31, Try.ntmps31
  go_wp2_with (first
   | (go_at_call 27; (with_reducible refine (ybf.calls k _ _ l0 _ _ l1 _ _ ?s0 ?c0 ?s1 ?c1 H1.out).mono ?_); (case s0 => exact Z2_); (case c0 => assumption); (case s1 => exact Z2_); (case c1 => assumption); rintro e wa1 ⟨rfl, hb⟩; have HBa1 := Aside0.mk hb; clear hb; have ky0_a1 : wa1.cell? ⟨w.heap.size, 0, none⟩ = some (.slice A0 l0.length c0) := (yaa (show wa1.heap[w.heap.size]? = some (.cells #[.slice A0 l0.length c0, .slice A1 l1.length c1] 47 (0, 0)) from Z3_) 0).trans rfl; have ky1_a1 : wa1.cell? ⟨w.heap.size, 1, none⟩ = some (.slice A1 l1.length c1) := (yaa (show wa1.heap[w.heap.size]? = some (.cells #[.slice A0 l0.length c0, .slice A1 l1.length c1] 47 (0, 0)) from Z3_) 1).trans rfl))
  go_ret
  exact ⟨by first | rfl | simp, Z1_⟩
 | true =>
  rw [if_pos rfl] at h
  obtain ⟨z, h1, h⟩ := Option.bind_eq_some_iff.mp h
  have H2 := Aside0.mk h1
  clear h1
  by_cases hz : (l2.length : Int) = z
  · subst hz
    rw [if_pos rfl] at h
    obtain ⟨n, h1, h⟩ := Option.bind_eq_some_iff.mp h
    have H3 := Aside0.mk h1
    clear h1
    obtain ⟨s, h1, h⟩ := Option.bind_eq_some_iff.mp h
    have H4 := Aside0.mk h1
    clear h1
    obtain ⟨q, h1, h⟩ := Option.bind_eq_some_iff.mp h
    have H5 := Aside0.mk h1
    clear h1
    by_cases hq : q < 0
    · rw [if_pos hq] at h
      obtain ⟨e, h1, h⟩ := Option.bind_eq_some_iff.mp h
      have H6 := Aside0.mk h1
      clear h1
      obtain ⟨m, h1, h⟩ := Option.bind_eq_some_iff.mp h
      have H7 := Aside0.mk h1
      clear h1
      obtain ⟨p, h1, h⟩ := Option.bind_eq_some_iff.mp h
      have H8 := Aside0.mk h1
      clear h1
      obtain ⟨u, h1, h⟩ := Option.bind_eq_some_iff.mp h
      have H9 := Aside0.mk h1
      clear h1
      obtain rfl := Option.some.inj h
      clear h
      go_enter Try.func31, Try.ntmps31
      go_wp2_with (first
       | (go_at_call 27; (with_reducible refine (ybf.calls k _ _ l0 _ _ l1 _ _ ?s0 ?c0 ?s1 ?c1 H1.out).mono ?_); (case s0 => exact Z2_); (case c0 => assumption); (case s1 => exact Z2_); (case c1 => assumption); rintro e wa1 ⟨rfl, hb⟩; have HBa1 := Aside0.mk hb; clear hb; have ky0_a1 : wa1.cell? ⟨w.heap.size, 0, none⟩ = some (.slice A0 l0.length c0) := (yaa (show wa1.heap[w.heap.size]? = some (.cells #[.slice A0 l0.length c0, .slice A1 l1.length c1] 47 (0, 0)) from Z3_) 0).trans rfl; have ky1_a1 : wa1.cell? ⟨w.heap.size, 1, none⟩ = some (.slice A1 l1.length c1) := (yaa (show wa1.heap[w.heap.size]? = some (.cells #[.slice A0 l0.length c0, .slice A1 l1.length c1] 47 (0, 0)) from Z3_) 1).trans rfl)
       | (go_at_call 29; (with_reducible refine (ybd.calls k _ _ l0 _ _ l1 _ _ ?s0 ?c0 ?s1 ?c1 H2.out).mono ?_); (case s0 => exact Z2_); (case c0 => assumption); (case s1 => exact Z2_); (case c1 => assumption); rintro e wa2 ⟨rfl, hb⟩; have HBa2 := Aside0.mk hb; clear hb; have ky0_a2 : wa2.cell? ⟨w.heap.size, 0, none⟩ = some (.slice A0 l0.length c0) := (yaa (show wa2.heap[w.heap.size]? = some (.cells #[.slice A0 l0.length c0, .slice A1 l1.length c1] 47 (0, 0)) from Z3_) 0).trans rfl; have ky1_a2 : wa2.cell? ⟨w.heap.size, 1, none⟩ = some (.slice A1 l1.length c1) := (yaa (show wa2.heap[w.heap.size]? = some (.cells #[.slice A0 l0.length c0, .slice A1 l1.length c1] 47 (0, 0)) from Z3_) 1).trans rfl)
       | (go_at_call 12; (with_reducible refine (yah.calls k _ _ l0 _ _ ?s0 ?c0 H3.out).mono ?_); (case s0 => exact Z2_); (case c0 => assumption); rintro e wa3 ⟨v, rfl, ho, hb⟩; obtain ⟨Aa3, ca3, rfl⟩ := Kd.ybc ho; have HCa3 := Aside0.mk (Kd.R_reads' ho).2.2; have hca3 := (Kd.R_reads' ho).2.1; have HBa3 := Aside0.mk hb; have HOa3 := Aside0.mk ho; clear hb ho; have ky0_a3 : wa3.cell? ⟨w.heap.size, 0, none⟩ = some (.slice A0 l0.length c0) := (yaa (show wa3.heap[w.heap.size]? = some (.cells #[.slice A0 l0.length c0, .slice A1 l1.length c1] 47 (0, 0)) from Z3_) 0).trans rfl; have ky1_a3 : wa3.cell? ⟨w.heap.size, 1, none⟩ = some (.slice A1 l1.length c1) := (yaa (show wa3.heap[w.heap.size]? = some (.cells #[.slice A0 l0.length c0, .slice A1 l1.length c1] 47 (0, 0)) from Z3_) 1).trans rfl)
       | (go_at_call 56; (with_reducible refine (yak.calls k _ _ l2 _ _ ?s0 ?c0 H4.out).mono ?_); (case s0 => exact Z2_); (case c0 => assumption); rintro e wa4 ⟨v, rfl, ho, hb⟩; obtain ⟨Aa4, ca4, rfl⟩ := Kd.ybc ho; have HCa4 := Aside0.mk (Kd.R_reads' ho).2.2; have hca4 := (Kd.R_reads' ho).2.1; have HBa4 := Aside0.mk hb; have HOa4 := Aside0.mk ho; clear hb ho; have ky0_a4 : wa4.cell? ⟨w.heap.size, 0, none⟩ = some (.slice A0 l0.length c0) := (yaa (show wa4.heap[w.heap.size]? = some (.cells #[.slice A0 l0.length c0, .slice A1 l1.length c1] 47 (0, 0)) from Z3_) 0).trans rfl; have ky1_a4 : wa4.cell? ⟨w.heap.size, 1, none⟩ = some (.slice A1 l1.length c1) := (yaa (show wa4.heap[w.heap.size]? = some (.cells #[.slice A0 l0.length c0, .slice A1 l1.length c1] 47 (0, 0)) from Z3_) 1).trans rfl)
       | (go_at_call 63; (with_reducible refine (yas.calls k _ _ s _ _ n _ _ ?s0 ?c0 ?s1 ?c1 H5.out).mono ?_); (case s0 => exact Z2_); (case c0 => assumption); (case s1 => exact Z2_); (case c1 => assumption); rintro e wa5 ⟨rfl, hq⟩; have HBa5 := Aside0.mk Z28_; clear hq; have ky0_a5 : wa5.cell? ⟨w.heap.size, 0, none⟩ = some (.slice A0 l0.length c0) := (yaa (show wa5.heap[w.heap.size]? = some (.cells #[.slice A0 l0.length c0, .slice A1 l1.length c1] 47 (0, 0)) from Z3_) 0).trans rfl; have ky1_a5 : wa5.cell? ⟨w.heap.size, 1, none⟩ = some (.slice A1 l1.length c1) := (yaa (show wa5.heap[w.heap.size]? = some (.cells #[.slice A0 l0.length c0, .slice A1 l1.length c1] 47 (0, 0)) from Z3_) 1).trans rfl)
       | (go_at_call 12; (with_reducible refine (yah.calls k _ _ l1 _ _ ?s0 ?c0 H6.out).mono ?_); (case s0 => exact Z2_); (case c0 => assumption); rintro e wa6 ⟨v, rfl, ho, hb⟩; obtain ⟨Aa6, ca6, rfl⟩ := Kd.ybc ho; have HCa6 := Aside0.mk (Kd.R_reads' ho).2.2; have hca6 := (Kd.R_reads' ho).2.1; have HBa6 := Aside0.mk hb; have HOa6 := Aside0.mk ho; clear hb ho; have ky0_a6 : wa6.cell? ⟨w.heap.size, 0, none⟩ = some (.slice A0 l0.length c0) := (yaa (show wa6.heap[w.heap.size]? = some (.cells #[.slice A0 l0.length c0, .slice A1 l1.length c1] 47 (0, 0)) from Z3_) 0).trans rfl; have ky1_a6 : wa6.cell? ⟨w.heap.size, 1, none⟩ = some (.slice A1 l1.length c1) := (yaa (show wa6.heap[w.heap.size]? = some (.cells #[.slice A0 l0.length c0, .slice A1 l1.length c1] 47 (0, 0)) from Z3_) 1).trans rfl)
       | (go_at_call 22; (with_reducible refine (ybh.calls k _ _ s _ _ e _ _ n _ _ ?s0 ?c0 ?s1 ?c1 ?s2 ?c2 H7.out).mono ?_); (case s0 => exact Z2_); (case c0 => assumption); (case s1 => exact Z2_); (case c1 => assumption); (case s2 => exact Z2_); (case c2 => assumption); rintro e wa7 ⟨v, rfl, ho, hb⟩; obtain ⟨Aa7, ca7, rfl⟩ := Kd.ybc ho; have HCa7 := Aside0.mk (Kd.R_reads' ho).2.2; have hca7 := (Kd.R_reads' ho).2.1; have HBa7 := Aside0.mk hb; have HOa7 := Aside0.mk ho; clear hb ho; have ky0_a7 : wa7.cell? ⟨w.heap.size, 0, none⟩ = some (.slice A0 l0.length c0) := (yaa (show wa7.heap[w.heap.size]? = some (.cells #[.slice A0 l0.length c0, .slice A1 l1.length c1] 47 (0, 0)) from Z3_) 0).trans rfl; have ky1_a7 : wa7.cell? ⟨w.heap.size, 1, none⟩ = some (.slice A1 l1.length c1) := (yaa (show wa7.heap[w.heap.size]? = some (.cells #[.slice A0 l0.length c0, .slice A1 l1.length c1] 47 (0, 0)) from Z3_) 1).trans rfl)
       | ((with_reducible refine ybu (N := 38) rfl ?_); refine ydf rfl rfl _ _ rfl _ _ rfl L _ Z4_ HU.out rfl HSZ.out ?_)
       | (go_at_call 18; refine (ygq.ydy _ hs _ L.toArray _ hl (by rw [HL.out]) rfl).mono ?_; rintro e wa8 ⟨v, rfl, ho, hb⟩; obtain ⟨Aa8, ca8, rfl⟩ := Kd.ybc ho; have HCa8 := Aside0.mk (Kd.R_reads' ho).2.2; have hca8 := (Kd.R_reads' ho).2.1; have HBa8 := Aside0.mk hb; have HOa8 := Aside0.mk ho; clear hb ho)
       | (go_at_call 56; (with_reducible refine (yak.calls k _ _ (yfo (l2.length : Int) hs) _ _ ?s0 ?c0 H8.out).mono ?_); (case s0 => exact Z2_); (case c0 => assumption); rintro e wa9 ⟨v, rfl, ho, hb⟩; obtain ⟨Aa9, ca9, rfl⟩ := Kd.ybc ho; have HCa9 := Aside0.mk (Kd.R_reads' ho).2.2; have hca9 := (Kd.R_reads' ho).2.1; have HBa9 := Aside0.mk hb; have HOa9 := Aside0.mk ho; clear hb ho)
       | (go_at_call 63; (with_reducible refine (yas.calls k _ _ m _ _ p _ _ ?s0 ?c0 ?s1 ?c1 H9.out).mono ?_); (case s0 => exact Z2_); (case c0 => assumption); (case s1 => exact Z2_); (case c1 => assumption); rintro e wa10 ⟨rfl, hq⟩; have HBa10 := Aside0.mk Z28_; clear hq))
      go_ret
      exact ⟨by first | rfl | simp, Z1_⟩
    · rw [if_neg hq] at h
      obtain rfl := Option.some.inj h
      clear h
      go_enter Try.func31, Try.ntmps31
      go_wp2_with (first
       | (go_at_call 27; (with_reducible refine (ybf.calls k _ _ l0 _ _ l1 _ _ ?s0 ?c0 ?s1 ?c1 H1.out).mono ?_); (case s0 => exact Z2_); (case c0 => assumption); (case s1 => exact Z2_); (case c1 => assumption); rintro e wa1 ⟨rfl, hb⟩; have HBa1 := Aside0.mk hb; clear hb; have ky0_a1 : wa1.cell? ⟨w.heap.size, 0, none⟩ = some (.slice A0 l0.length c0) := (yaa (show wa1.heap[w.heap.size]? = some (.cells #[.slice A0 l0.length c0, .slice A1 l1.length c1] 47 (0, 0)) from Z3_) 0).trans rfl; have ky1_a1 : wa1.cell? ⟨w.heap.size, 1, none⟩ = some (.slice A1 l1.length c1) := (yaa (show wa1.heap[w.heap.size]? = some (.cells #[.slice A0 l0.length c0, .slice A1 l1.length c1] 47 (0, 0)) from Z3_) 1).trans rfl)
       | (go_at_call 29; (with_reducible refine (ybd.calls k _ _ l0 _ _ l1 _ _ ?s0 ?c0 ?s1 ?c1 H2.out).mono ?_); (case s0 => exact Z2_); (case c0 => assumption); (case s1 => exact Z2_); (case c1 => assumption); rintro e wa2 ⟨rfl, hb⟩; have HBa2 := Aside0.mk hb; clear hb; have ky0_a2 : wa2.cell? ⟨w.heap.size, 0, none⟩ = some (.slice A0 l0.length c0) := (yaa (show wa2.heap[w.heap.size]? = some (.cells #[.slice A0 l0.length c0, .slice A1 l1.length c1] 47 (0, 0)) from Z3_) 0).trans rfl; have ky1_a2 : wa2.cell? ⟨w.heap.size, 1, none⟩ = some (.slice A1 l1.length c1) := (yaa (show wa2.heap[w.heap.size]? = some (.cells #[.slice A0 l0.length c0, .slice A1 l1.length c1] 47 (0, 0)) from Z3_) 1).trans rfl)
       | (go_at_call 12; (with_reducible refine (yah.calls k _ _ l0 _ _ ?s0 ?c0 H3.out).mono ?_); (case s0 => exact Z2_); (case c0 => assumption); rintro e wa3 ⟨v, rfl, ho, hb⟩; obtain ⟨Aa3, ca3, rfl⟩ := Kd.ybc ho; have HCa3 := Aside0.mk (Kd.R_reads' ho).2.2; have hca3 := (Kd.R_reads' ho).2.1; have HBa3 := Aside0.mk hb; have HOa3 := Aside0.mk ho; clear hb ho; have ky0_a3 : wa3.cell? ⟨w.heap.size, 0, none⟩ = some (.slice A0 l0.length c0) := (yaa (show wa3.heap[w.heap.size]? = some (.cells #[.slice A0 l0.length c0, .slice A1 l1.length c1] 47 (0, 0)) from Z3_) 0).trans rfl; have ky1_a3 : wa3.cell? ⟨w.heap.size, 1, none⟩ = some (.slice A1 l1.length c1) := (yaa (show wa3.heap[w.heap.size]? = some (.cells #[.slice A0 l0.length c0, .slice A1 l1.length c1] 47 (0, 0)) from Z3_) 1).trans rfl)
       | (go_at_call 56; (with_reducible refine (yak.calls k _ _ l2 _ _ ?s0 ?c0 H4.out).mono ?_); (case s0 => exact Z2_); (case c0 => assumption); rintro e wa4 ⟨v, rfl, ho, hb⟩; obtain ⟨Aa4, ca4, rfl⟩ := Kd.ybc ho; have HCa4 := Aside0.mk (Kd.R_reads' ho).2.2; have hca4 := (Kd.R_reads' ho).2.1; have HBa4 := Aside0.mk hb; have HOa4 := Aside0.mk ho; clear hb ho; have ky0_a4 : wa4.cell? ⟨w.heap.size, 0, none⟩ = some (.slice A0 l0.length c0) := (yaa (show wa4.heap[w.heap.size]? = some (.cells #[.slice A0 l0.length c0, .slice A1 l1.length c1] 47 (0, 0)) from Z3_) 0).trans rfl; have ky1_a4 : wa4.cell? ⟨w.heap.size, 1, none⟩ = some (.slice A1 l1.length c1) := (yaa (show wa4.heap[w.heap.size]? = some (.cells #[.slice A0 l0.length c0, .slice A1 l1.length c1] 47 (0, 0)) from Z3_) 1).trans rfl)
       | (go_at_call 63; (with_reducible refine (yas.calls k _ _ s _ _ n _ _ ?s0 ?c0 ?s1 ?c1 H5.out).mono ?_); (case s0 => exact Z2_); (case c0 => assumption); (case s1 => exact Z2_); (case c1 => assumption); rintro e wa5 ⟨rfl, hq⟩; have HBa5 := Aside0.mk Z28_; clear hq; have ky0_a5 : wa5.cell? ⟨w.heap.size, 0, none⟩ = some (.slice A0 l0.length c0) := (yaa (show wa5.heap[w.heap.size]? = some (.cells #[.slice A0 l0.length c0, .slice A1 l1.length c1] 47 (0, 0)) from Z3_) 0).trans rfl; have ky1_a5 : wa5.cell? ⟨w.heap.size, 1, none⟩ = some (.slice A1 l1.length c1) := (yaa (show wa5.heap[w.heap.size]? = some (.cells #[.slice A0 l0.length c0, .slice A1 l1.length c1] 47 (0, 0)) from Z3_) 1).trans rfl))
      go_ret
      exact ⟨by first | rfl | simp, Z1_⟩
  · rw [if_neg hz] at h
    obtain rfl := Option.some.inj h
    obtain ⟨hz1, hz2⟩ := ne_of_len hz
    clear h hz
    go_enter Try.func31, Try.ntmps31
    go_wp2_with (first
     | (go_at_call 27; (with_reducible refine (ybf.calls k _ _ l0 _ _ l1 _ _ ?s0 ?c0 ?s1 ?c1 H1.out).mono ?_); (case s0 => exact Z2_); (case c0 => assumption); (case s1 => exact Z2_); (case c1 => assumption); rintro e wa1 ⟨rfl, hb⟩; have HBa1 := Aside0.mk hb; clear hb; have ky0_a1 : wa1.cell? ⟨w.heap.size, 0, none⟩ = some (.slice A0 l0.length c0) := (yaa (show wa1.heap[w.heap.size]? = some (.cells #[.slice A0 l0.length c0, .slice A1 l1.length c1] 47 (0, 0)) from Z3_) 0).trans rfl; have ky1_a1 : wa1.cell? ⟨w.heap.size, 1, none⟩ = some (.slice A1 l1.length c1) := (yaa (show wa1.heap[w.heap.size]? = some (.cells #[.slice A0 l0.length c0, .slice A1 l1.length c1] 47 (0, 0)) from Z3_) 1).trans rfl)
     | (go_at_call 29; (with_reducible refine (ybd.calls k _ _ l0 _ _ l1 _ _ ?s0 ?c0 ?s1 ?c1 H2.out).mono ?_); (case s0 => exact Z2_); (case c0 => assumption); (case s1 => exact Z2_); (case c1 => assumption); rintro e wa2 ⟨rfl, hb⟩; have HBa2 := Aside0.mk hb; clear hb; have ky0_a2 : wa2.cell? ⟨w.heap.size, 0, none⟩ = some (.slice A0 l0.length c0) := (yaa (show wa2.heap[w.heap.size]? = some (.cells #[.slice A0 l0.length c0, .slice A1 l1.length c1] 47 (0, 0)) from Z3_) 0).trans rfl; have ky1_a2 : wa2.cell? ⟨w.heap.size, 1, none⟩ = some (.slice A1 l1.length c1) := (yaa (show wa2.heap[w.heap.size]? = some (.cells #[.slice A0 l0.length c0, .slice A1 l1.length c1] 47 (0, 0)) from Z3_) 1).trans rfl))
    go_ret
    exact ⟨by first | rfl | simp, Z1_⟩
end Go.Proofs.Ytgnaaaliadiekaa.B
end
section
namespace Go.Proofs.Ytgnaaaliadiekaa.B
open Go.RowKit Go.Proofs.YtgnaaaliadiekaaW.PrintWords Go.Proofs.YtgnaaaliadiekaaW.PrintLast Go.Proofs.YtgnaaaliadiekaaW.PrintMore
set_option linter.unusedVariables false
set_option linter.unusedSimpArgs false
def VerOk (k : Nat) (l m hs sg : List Int) : Prop := ∃ (x y : List Int) (p q : Int) (b r : Bool), yah.f k l = some x ∧ yaq.f k x = some p ∧ yah.f k m = some y ∧ yaq.f k y = some q ∧ (0 < p → 0 < q → yby.f k l m hs sg = some b) ∧ ycz.f k l m hs sg = some r ∧ r = (if 0 < p ∧ 0 < q ∧ b = true then true else false)
theorem ycz.ydy (k : Nat) (A0 : Option Addr) (c0 : Nat) (l0 : List Int) (A1 : Option Addr) (c1 : Nat) (l1 : List Int) (A2 : Option Addr) (c2 : Nat) (l2 : List Int) (n : Nat) (hs : List Int) (X : Array Value) (r : Bool) (w : World) (hr_l0 : Kd.C (Kd.int .u64) w A0 l0.length l0) (hc_l0 : l0.length ≤ c0) (hr_l1 : Kd.C (Kd.int .u64) w A1 l1.length l1) (hc_l1 : l1.length ≤ c1) (hr_l2 : Kd.C (Kd.int .u8) w A2 l2.length l2) (hc_l2 : l2.length ≤ c2) (hl : hs.length = 32) (hX : X = (hs.map (Value.int .u8)).toArray) (hn : l2.length = n) (h : ycz.f k l0 l1 hs l2 = some r) :
 Calls Try.prog 30 #[.agg #[.slice A0 l0.length c0, .slice A1 l1.length c1], .agg X, .slice A2 n c2] w fun e w' => e = .returned (.bool r) ∧ Below w.heap.size w w' := by
 subst hX hn
 exact ycz.calls k A0 c0 l0 A1 c1 l1 A2 c2 l2 hs r w hr_l0 hc_l0 hr_l1 hc_l1 hr_l2 hc_l2 hl h
theorem yby.ydy (k : Nat) (A0 : Option Addr) (c0 : Nat) (l0 : List Int) (A1 : Option Addr) (c1 : Nat) (l1 : List Int) (A2 : Option Addr) (c2 : Nat) (l2 : List Int) (n : Nat) (hs : List Int) (X : Array Value) (r : Bool) (w : World) (hr_l0 : Kd.C (Kd.int .u64) w A0 l0.length l0) (hc_l0 : l0.length ≤ c0) (hr_l1 : Kd.C (Kd.int .u64) w A1 l1.length l1) (hc_l1 : l1.length ≤ c1) (hr_l2 : Kd.C (Kd.int .u8) w A2 l2.length l2) (hc_l2 : l2.length ≤ c2) (hl : hs.length = 32) (hX : X = (hs.map (Value.int .u8)).toArray) (hn : l2.length = n) (h : yby.f k l0 l1 hs l2 = some r) :
 Calls Try.prog 31 #[.agg #[.slice A0 l0.length c0, .slice A1 l1.length c1], .agg X, .slice A2 n c2] w fun e w' => e = .returned (.bool r) ∧ Below w.heap.size w w' := by
 subst hX hn
 exact yby.calls k A0 c0 l0 A1 c1 l1 A2 c2 l2 hs r w hr_l0 hc_l0 hr_l1 hc_l1 hr_l2 hc_l2 hl h
end Go.Proofs.Ytgnaaaliadiekaa.B
end
