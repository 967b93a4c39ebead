/- A part of the proof (merged by pack.py, a program of this session: what the row's proof names). -/
import Derived.Test.YtgnaaaliadiekaaM4
import Derived.Test.YtgnaaaliadiekaaM14
import Derived.Test.YtgnaaaliadiekaaM17
import Derived.Test.YtgnaaaliadiekaaM25
import Derived.Test.YtgnaaaliadiekaaM26
import Derived.Test.YtgnaaaliadiekaaM27
import Derived.Test.YtgnaaaliadiekaaM34
import Derived.Test.YtgnaaaliadiekaaM0
section
namespace Go.Proofs.Ytgnaaaliadiekaa.B
open Go.RowKit Go.Proofs.YtgnaaaliadiekaaW.PrintWords Go.Proofs.YtgnaaaliadiekaaW.PrintLast Go.Proofs.YtgnaaaliadiekaaW.PrintMore
set_option linter.unusedVariables false
set_option linter.unusedSimpArgs false
section
variable {P : Program} {ops : Array Oper} {rest : List Oper} {op : Oper} {a : Act} {Q : Exit → Act → World → Prop}
theorem ydf {w : World} (hw : Region.wanted op (yielded ops a.tmps) = true) {N : Tmp} (_hN : op.dst = some N) (ty : TypeId) (x : Operand) (ho : op.op = .load ty x) (b o : Nat) (hx : a.eval x = .pointer (some ⟨b, o, none⟩)) (cs : List Value) (d : TypeDesc) (hc : w.rangeAt b o cs)
 (hu : P.underlying ty = some d) (hd : d.isRow = true) (hi : (P.info? ty).map (·.size) = some cs.length) (h : wpList P ops Q rest (a.put op.dst (.agg cs.toArray)) w) : wpList P ops Q (op :: rest) a w :=
 BigFrame.wpList_want hw fun K hK => wp_load_mid ty x ho b o hx cs d hc hu hd hi (hK _ _ h)
end
theorem ne_of_len {a b : Int} (h : ¬ a = b) : (a == b) = false ∧ (a != b) = true := by simp [h]
def ycz.f (k : Nat) (l0 l1 hs l2 : List Int) : Option Bool :=
 (ycq.f k l0 l1).bind fun c => if c = 0 then (ydu.f k l0 l1).bind fun z => if (l2.length : Int) = z then (ycv.f k l2).bind fun s => (yco.f k s.1 l0).bind fun q => if q < 0 then (yax.f k s.1 l1 l0).bind fun m => (yck.f k m.1 (l2.length : Int)).bind fun b => if b.2 = true then bytes_Equal.f b.1 (yfo (l2.length : Int) hs) else some false else some false else some false else some false
set_option maxHeartbeats 4000000 in
set_option maxRecDepth 100000 in
theorem ycz.calls (k : Nat) (A0 : Option Addr) (c0 : Nat) (l0 : List Int) (A1 : Option Addr) (c1 : Nat) (l1 : List Int) (A2 : Option Addr) (c2 : Nat) (l2 : List Int) (hs : List Int) (r : Bool) (w : World) (hr_l0 : Kd.C (Kd.int .u64) w A0 l0.length l0) (hc_l0 : l0.length ≤ c0) (hr_l1 : Kd.C (Kd.int .u64) w A1 l1.length l1) (hc_l1 : l1.length ≤ c1) (hr_l2 : Kd.C (Kd.int .u8) w A2 l2.length l2) (hc_l2 : l2.length ≤ c2) (hl : hs.length = 32) (h : ycz.f k l0 l1 hs l2 = some r) :
 Calls Try.prog 30 #[.agg #[.slice A0 l0.length c0, .slice A1 l1.length c1], .agg (hs.map (Value.int .u8)).toArray, .slice A2 l2.length c2] w fun e w' => e = .returned (.bool r) ∧ Below w.heap.size w w' := by
 have HR_l0 := Aside0.mk hr_l0
 have HR_l1 := Aside0.mk hr_l1
 have HR_l2 := Aside0.mk hr_l2
 clear hr_l0 hr_l1 hr_l2
 obtain ⟨L, hL⟩ : ∃ L, hs.map (Value.int .u8) = L := ⟨_, rfl⟩
 have hLl : L.length = 32 := by rw [← hL, List.length_map, hl]
 have hsz : (Try.prog.info? 37).map (·.size) = some L.length := by rw [hLl]; kernel_rfl
 have HSZ := Aside0.mk hsz
 have HU := Aside0.mk (show Try.prog.underlying 37 = _ from Try.underlying37)
 clear hsz
 rw [hL]
 have HL := Aside0.mk hL
 clear hL
 have BK0 := Aside0.mk (show ((w.alloc (.cells #[.slice A0 l0.length c0, .slice A1 l1.length c1] 47)).alloc (.cells L.toArray 37)).heap[w.heap.size]? = some (.cells #[.slice A0 l0.length c0, .slice A1 l1.length c1] 47 (0, 0)) from (yek w _ _).1)
 have HR0 := Aside0.mk (show ((w.alloc (.cells #[.slice A0 l0.length c0, .slice A1 l1.length c1] 47)).alloc (.cells L.toArray 37)).rangeAt (w.heap.size + 1) 0 L from ycu (yek w _ _).2)
 have kz0 : ((w.alloc (.cells #[.slice A0 l0.length c0, .slice A1 l1.length c1] 47)).alloc (.cells L.toArray 37)).cell? ⟨w.heap.size, 0, none⟩ = some (.slice A0 l0.length c0) := (yaa BK0.out 0).trans rfl
 have kz1 : ((w.alloc (.cells #[.slice A0 l0.length c0, .slice A1 l1.length c1] 47)).alloc (.cells L.toArray 37)).cell? ⟨w.heap.size, 1, none⟩ = some (.slice A1 l1.length c1) := (yaa BK0.out 1).trans rfl
 unfold ycz.f at h
 obtain ⟨c, h1, h⟩ := Option.bind_eq_some_iff.mp h
 have H1 := Aside0.mk h1
 clear h1
 by_cases hc : c = 0
 · subst hc
   rw [if_pos rfl] at h
   obtain ⟨z, h2, h⟩ := Option.bind_eq_some_iff.mp h
   have H2 := Aside0.mk h2
   clear h2
   by_cases hz : (l2.length : Int) = z
   · subst hz
     rw [if_pos rfl] at h
     obtain ⟨⟨s, se⟩, h3, h⟩ := Option.bind_eq_some_iff.mp h
     have H3 := Aside0.mk h3
     clear h3
     dsimp only at h
     obtain ⟨q, h4, h⟩ := Option.bind_eq_some_iff.mp h
     have H4 := Aside0.mk h4
     clear h4
     by_cases hq : q < 0
     · rw [if_pos hq] at h
       obtain ⟨⟨m, me⟩, h5, h⟩ := Option.bind_eq_some_iff.mp h
       have H5 := Aside0.mk h5
       clear h5
       dsimp only at h
       obtain ⟨⟨b, bo⟩, h6, h⟩ := Option.bind_eq_some_iff.mp h
       have H6 := Aside0.mk h6
       clear h6
       dsimp only at h
       cases bo with
       | true =>
        rw [if_pos rfl] at h
        have H7 := Aside0.mk h
        clear h
        go_enter Try.func30, Try.ntmps30
        go_wp2_with (first
         | (go_at_call 28; (with_reducible refine (ycq.calls k _ _ l0 _ _ l1 _ _ ?s0 ?c0 ?s1 ?c1 H1.out).mono ?_); (case s0 => exact Z2_); (case c0 => assumption); (case s1 => exact Z2_); (case c1 => assumption); rintro e wa1 ⟨rfl, hb⟩; have HBa1 := Aside0.mk hb; clear hb; have ky0_a1 : wa1.cell? ⟨w.heap.size, 0, none⟩ = some (.slice A0 l0.length c0) := (yaa (show wa1.heap[w.heap.size]? = some (.cells #[.slice A0 l0.length c0, .slice A1 l1.length c1] 47 (0, 0)) from Z3_) 0).trans rfl; have ky1_a1 : wa1.cell? ⟨w.heap.size, 1, none⟩ = some (.slice A1 l1.length c1) := (yaa (show wa1.heap[w.heap.size]? = some (.cells #[.slice A0 l0.length c0, .slice A1 l1.length c1] 47 (0, 0)) from Z3_) 1).trans rfl)
         | (go_at_call 23; (with_reducible refine (ydu.calls k _ _ l0 _ _ l1 _ _ ?s0 ?c0 ?s1 ?c1 H2.out).mono ?_); (case s0 => exact Z2_); (case c0 => assumption); (case s1 => exact Z2_); (case c1 => assumption); rintro e wa2 ⟨rfl, hb⟩; have HBa2 := Aside0.mk hb; clear hb; have ky0_a2 : wa2.cell? ⟨w.heap.size, 0, none⟩ = some (.slice A0 l0.length c0) := (yaa (show wa2.heap[w.heap.size]? = some (.cells #[.slice A0 l0.length c0, .slice A1 l1.length c1] 47 (0, 0)) from Z3_) 0).trans rfl; have ky1_a2 : wa2.cell? ⟨w.heap.size, 1, none⟩ = some (.slice A1 l1.length c1) := (yaa (show wa2.heap[w.heap.size]? = some (.cells #[.slice A0 l0.length c0, .slice A1 l1.length c1] 47 (0, 0)) from Z3_) 1).trans rfl)
         | (go_at_call 20; (with_reducible refine (ycv.calls k _ _ l2 _ _ _ ?s0 ?c0 H3.out).mono ?_); (case s0 => exact Z2_); (case c0 => assumption); rintro e wa3 ⟨v, rfl, ho, hb⟩; obtain ⟨Aa3, ca3, rfl⟩ := Kd.ybc ho; have HCa3 := Aside0.mk (Kd.R_reads' ho).2.2; have hca3 := (Kd.R_reads' ho).2.1; have HBa3 := Aside0.mk hb; have HOa3 := Aside0.mk ho; clear hb ho; have ky0_a3 : wa3.cell? ⟨w.heap.size, 0, none⟩ = some (.slice A0 l0.length c0) := (yaa (show wa3.heap[w.heap.size]? = some (.cells #[.slice A0 l0.length c0, .slice A1 l1.length c1] 47 (0, 0)) from Z3_) 0).trans rfl; have ky1_a3 : wa3.cell? ⟨w.heap.size, 1, none⟩ = some (.slice A1 l1.length c1) := (yaa (show wa3.heap[w.heap.size]? = some (.cells #[.slice A0 l0.length c0, .slice A1 l1.length c1] 47 (0, 0)) from Z3_) 1).trans rfl)
         | (go_at_call 42; (with_reducible refine (yco.calls k _ _ s _ _ l0 _ _ ?s0 ?c0 ?s1 ?c1 H4.out).mono ?_); (case s0 => exact Z2_); (case c0 => assumption); (case s1 => exact Z2_); (case c1 => assumption); rintro e wa4 ⟨rfl, hb⟩; have HBa4 := Aside0.mk hb; clear hb; have ky0_a4 : wa4.cell? ⟨w.heap.size, 0, none⟩ = some (.slice A0 l0.length c0) := (yaa (show wa4.heap[w.heap.size]? = some (.cells #[.slice A0 l0.length c0, .slice A1 l1.length c1] 47 (0, 0)) from Z3_) 0).trans rfl; have ky1_a4 : wa4.cell? ⟨w.heap.size, 1, none⟩ = some (.slice A1 l1.length c1) := (yaa (show wa4.heap[w.heap.size]? = some (.cells #[.slice A0 l0.length c0, .slice A1 l1.length c1] 47 (0, 0)) from Z3_) 1).trans rfl)
         | (go_at_call 64; (with_reducible refine (yax.calls k _ _ s _ _ l1 _ _ l0 _ _ _ ?s0 ?c0 ?s1 ?c1 ?s2 ?c2 H5.out).mono ?_); (case s0 => exact Z2_); (case c0 => assumption); (case s1 => exact Z2_); (case c1 => assumption); (case s2 => exact Z2_); (case c2 => assumption); rintro e wa5 ⟨v, rfl, ho, hb⟩; obtain ⟨Aa5, ca5, rfl⟩ := Kd.ybc ho; have HCa5 := Aside0.mk (Kd.R_reads' ho).2.2; have hca5 := (Kd.R_reads' ho).2.1; have HBa5 := Aside0.mk hb; have HOa5 := Aside0.mk ho; clear hb ho; have ky0_a5 : wa5.cell? ⟨w.heap.size, 0, none⟩ = some (.slice A0 l0.length c0) := (yaa (show wa5.heap[w.heap.size]? = some (.cells #[.slice A0 l0.length c0, .slice A1 l1.length c1] 47 (0, 0)) from Z3_) 0).trans rfl; have ky1_a5 : wa5.cell? ⟨w.heap.size, 1, none⟩ = some (.slice A1 l1.length c1) := (yaa (show wa5.heap[w.heap.size]? = some (.cells #[.slice A0 l0.length c0, .slice A1 l1.length c1] 47 (0, 0)) from Z3_) 1).trans rfl)
         | (go_at_call 37; (with_reducible refine (yck.calls k _ _ m _ _ _ _ ?s0 ?c0 H6.out).mono ?_); (case s0 => exact Z2_); (case c0 => assumption); rintro e wa6 ⟨v, rfl, ho, hb⟩; obtain ⟨Aa6, ca6, rfl⟩ := Kd.ybc ho; have HCa6 := Aside0.mk (Kd.R_reads' ho).2.2; have hca6 := (Kd.R_reads' ho).2.1; have HBa6 := Aside0.mk hb; have HOa6 := Aside0.mk ho; clear hb ho; have ky0_a6 : wa6.cell? ⟨w.heap.size, 0, none⟩ = some (.slice A0 l0.length c0) := (yaa (show wa6.heap[w.heap.size]? = some (.cells #[.slice A0 l0.length c0, .slice A1 l1.length c1] 47 (0, 0)) from Z3_) 0).trans rfl; have ky1_a6 : wa6.cell? ⟨w.heap.size, 1, none⟩ = some (.slice A1 l1.length c1) := (yaa (show wa6.heap[w.heap.size]? = some (.cells #[.slice A0 l0.length c0, .slice A1 l1.length c1] 47 (0, 0)) from Z3_) 1).trans rfl)
         | ((with_reducible refine ybu (N := 54) rfl ?_); refine ydf rfl rfl _ _ rfl _ _ rfl L _ Z4_ HU.out rfl HSZ.out ?_)
         | (go_at_call 17; refine (yhu.ydy _ hs _ L.toArray _ hl (by rw [HL.out]) rfl).mono ?_; rintro e wa7 ⟨v, rfl, ho, hb⟩; obtain ⟨Aa7, ca7, rfl⟩ := Kd.ybc ho; have HCa7 := Aside0.mk (Kd.R_reads' ho).2.2; have hca7 := (Kd.R_reads' ho).2.1; have HBa7 := Aside0.mk hb; have HOa7 := Aside0.mk ho; clear hb ho)
         | (go_at_call 65; (with_reducible refine (bytes_Equal.calls  _ _ b _ _ (yfo (l2.length : Int) hs) _ _ ?s0 ?c0 ?s1 ?c1 H7.out).mono ?_); (case s0 => exact Z2_); (case c0 => assumption); (case s1 => exact Z2_); (case c1 => assumption); rintro e wa8 ⟨rfl, hq⟩; have HBa8 := Aside0.mk Z28_; clear hq))
        go_ret
        exact ⟨rfl, Z1_⟩
       | false =>
        rw [if_neg (by simp)] at h
        obtain rfl := Option.some.inj h
        clear h
        go_enter Try.func30, Try.ntmps30
        go_wp2_with (first
         | (go_at_call 28; (with_reducible refine (ycq.calls k _ _ l0 _ _ l1 _ _ ?s0 ?c0 ?s1 ?c1 H1.out).mono ?_); (case s0 => exact Z2_); (case c0 => assumption); (case s1 => exact Z2_); (case c1 => assumption); rintro e wa1 ⟨rfl, hb⟩; have HBa1 := Aside0.mk hb; clear hb; have ky0_a1 : wa1.cell? ⟨w.heap.size, 0, none⟩ = some (.slice A0 l0.length c0) := (yaa (show wa1.heap[w.heap.size]? = some (.cells #[.slice A0 l0.length c0, .slice A1 l1.length c1] 47 (0, 0)) from Z3_) 0).trans rfl; have ky1_a1 : wa1.cell? ⟨w.heap.size, 1, none⟩ = some (.slice A1 l1.length c1) := (yaa (show wa1.heap[w.heap.size]? = some (.cells #[.slice A0 l0.length c0, .slice A1 l1.length c1] 47 (0, 0)) from Z3_) 1).trans rfl)
         | (go_at_call 23; (with_reducible refine (ydu.calls k _ _ l0 _ _ l1 _ _ ?s0 ?c0 ?s1 ?c1 H2.out).mono ?_); (case s0 => exact Z2_); (case c0 => assumption); (case s1 => exact Z2_); (case c1 => assumption); rintro e wa2 ⟨rfl, hb⟩; have HBa2 := Aside0.mk hb; clear hb; have ky0_a2 : wa2.cell? ⟨w.heap.size, 0, none⟩ = some (.slice A0 l0.length c0) := (yaa (show wa2.heap[w.heap.size]? = some (.cells #[.slice A0 l0.length c0, .slice A1 l1.length c1] 47 (0, 0)) from Z3_) 0).trans rfl; have ky1_a2 : wa2.cell? ⟨w.heap.size, 1, none⟩ = some (.slice A1 l1.length c1) := (yaa (show wa2.heap[w.heap.size]? = some (.cells #[.slice A0 l0.length c0, .slice A1 l1.length c1] 47 (0, 0)) from Z3_) 1).trans rfl)
         | (go_at_call 20; (with_reducible refine (ycv.calls k _ _ l2 _ _ _ ?s0 ?c0 H3.out).mono ?_); (case s0 => exact Z2_); (case c0 => assumption); rintro e wa3 ⟨v, rfl, ho, hb⟩; obtain ⟨Aa3, ca3, rfl⟩ := Kd.ybc ho; have HCa3 := Aside0.mk (Kd.R_reads' ho).2.2; have hca3 := (Kd.R_reads' ho).2.1; have HBa3 := Aside0.mk hb; have HOa3 := Aside0.mk ho; clear hb ho; have ky0_a3 : wa3.cell? ⟨w.heap.size, 0, none⟩ = some (.slice A0 l0.length c0) := (yaa (show wa3.heap[w.heap.size]? = some (.cells #[.slice A0 l0.length c0, .slice A1 l1.length c1] 47 (0, 0)) from Z3_) 0).trans rfl; have ky1_a3 : wa3.cell? ⟨w.heap.size, 1, none⟩ = some (.slice A1 l1.length c1) := (yaa (show wa3.heap[w.heap.size]? = some (.cells #[.slice A0 l0.length c0, .slice A1 l1.length c1] 47 (0, 0)) from Z3_) 1).trans rfl)
         | (go_at_call 42; (with_reducible refine (yco.calls k _ _ s _ _ l0 _ _ ?s0 ?c0 ?s1 ?c1 H4.out).mono ?_); (case s0 => exact Z2_); (case c0 => assumption); (case s1 => exact Z2_); (case c1 => assumption); rintro e wa4 ⟨rfl, hb⟩; have HBa4 := Aside0.mk hb; clear hb; have ky0_a4 : wa4.cell? ⟨w.heap.size, 0, none⟩ = some (.slice A0 l0.length c0) := (yaa (show wa4.heap[w.heap.size]? = some (.cells #[.slice A0 l0.length c0, .slice A1 l1.length c1] 47 (0, 0)) from Z3_) 0).trans rfl; have ky1_a4 : wa4.cell? ⟨w.heap.size, 1, none⟩ = some (.slice A1 l1.length c1) := (yaa (show wa4.heap[w.heap.size]? = some (.cells #[.slice A0 l0.length c0, .slice A1 l1.length c1] 47 (0, 0)) from Z3_) 1).trans rfl)
         | (go_at_call 64; (with_reducible refine (yax.calls k _ _ s _ _ l1 _ _ l0 _ _ _ ?s0 ?c0 ?s1 ?c1 ?s2 ?c2 H5.out).mono ?_); (case s0 => exact Z2_); (case c0 => assumption); (case s1 => exact Z2_); (case c1 => assumption); (case s2 => exact Z2_); (case c2 => assumption); rintro e wa5 ⟨v, rfl, ho, hb⟩; obtain ⟨Aa5, ca5, rfl⟩ := Kd.ybc ho; have HCa5 := Aside0.mk (Kd.R_reads' ho).2.2; have hca5 := (Kd.R_reads' ho).2.1; have HBa5 := Aside0.mk hb; have HOa5 := Aside0.mk ho; clear hb ho; have ky0_a5 : wa5.cell? ⟨w.heap.size, 0, none⟩ = some (.slice A0 l0.length c0) := (yaa (show wa5.heap[w.heap.size]? = some (.cells #[.slice A0 l0.length c0, .slice A1 l1.length c1] 47 (0, 0)) from Z3_) 0).trans rfl; have ky1_a5 : wa5.cell? ⟨w.heap.size, 1, none⟩ = some (.slice A1 l1.length c1) := (yaa (show wa5.heap[w.heap.size]? = some (.cells #[.slice A0 l0.length c0, .slice A1 l1.length c1] 47 (0, 0)) from Z3_) 1).trans rfl)
         | (go_at_call 37; (with_reducible refine (yck.calls k _ _ m _ _ _ _ ?s0 ?c0 H6.out).mono ?_); (case s0 => exact Z2_); (case c0 => assumption); rintro e wa6 ⟨v, rfl, ho, hb⟩; obtain ⟨Aa6, ca6, rfl⟩ := Kd.ybc ho; have HCa6 := Aside0.mk (Kd.R_reads' ho).2.2; have hca6 := (Kd.R_reads' ho).2.1; have HBa6 := Aside0.mk hb; have HOa6 := Aside0.mk ho; clear hb ho; have ky0_a6 : wa6.cell? ⟨w.heap.size, 0, none⟩ = some (.slice A0 l0.length c0) := (yaa (show wa6.heap[w.heap.size]? = some (.cells #[.slice A0 l0.length c0, .slice A1 l1.length c1] 47 (0, 0)) from Z3_) 0).trans rfl; have ky1_a6 : wa6.cell? ⟨w.heap.size, 1, none⟩ = some (.slice A1 l1.length c1) := (yaa (show wa6.heap[w.heap.size]? = some (.cells #[.slice A0 l0.length c0, .slice A1 l1.length c1] 47 (0, 0)) from Z3_) 1).trans rfl))
        go_ret
        exact ⟨rfl, Z1_⟩
     · rw [if_neg hq] at h
       obtain rfl := Option.some.inj h
       clear h
       go_enter Try.func30, Try.ntmps30
       go_wp2_with (first
        | (go_at_call 28; (with_reducible refine (ycq.calls k _ _ l0 _ _ l1 _ _ ?s0 ?c0 ?s1 ?c1 H1.out).mono ?_); (case s0 => exact Z2_); (case c0 => assumption); (case s1 => exact Z2_); (case c1 => assumption); rintro e wa1 ⟨rfl, hb⟩; have HBa1 := Aside0.mk hb; clear hb; have ky0_a1 : wa1.cell? ⟨w.heap.size, 0, none⟩ = some (.slice A0 l0.length c0) := (yaa (show wa1.heap[w.heap.size]? = some (.cells #[.slice A0 l0.length c0, .slice A1 l1.length c1] 47 (0, 0)) from Z3_) 0).trans rfl; have ky1_a1 : wa1.cell? ⟨w.heap.size, 1, none⟩ = some (.slice A1 l1.length c1) := (yaa (show wa1.heap[w.heap.size]? = some (.cells #[.slice A0 l0.length c0, .slice A1 l1.length c1] 47 (0, 0)) from Z3_) 1).trans rfl)
        | (go_at_call 23; (with_reducible refine (ydu.calls k _ _ l0 _ _ l1 _ _ ?s0 ?c0 ?s1 ?c1 H2.out).mono ?_); (case s0 => exact Z2_); (case c0 => assumption); (case s1 => exact Z2_); (case c1 => assumption); rintro e wa2 ⟨rfl, hb⟩; have HBa2 := Aside0.mk hb; clear hb; have ky0_a2 : wa2.cell? ⟨w.heap.size, 0, none⟩ = some (.slice A0 l0.length c0) := (yaa (show wa2.heap[w.heap.size]? = some (.cells #[.slice A0 l0.length c0, .slice A1 l1.length c1] 47 (0, 0)) from Z3_) 0).trans rfl; have ky1_a2 : wa2.cell? ⟨w.heap.size, 1, none⟩ = some (.slice A1 l1.length c1) := (yaa (show wa2.heap[w.heap.size]? = some (.cells #[.slice A0 l0.length c0, .slice A1 l1.length c1] 47 (0, 0)) from Z3_) 1).trans rfl)
        | (go_at_call 20; (with_reducible refine (ycv.calls k _ _ l2 _ _ _ ?s0 ?c0 H3.out).mono ?_); (case s0 => exact Z2_); (case c0 => assumption); rintro e wa3 ⟨v, rfl, ho, hb⟩; obtain ⟨Aa3, ca3, rfl⟩ := Kd.ybc ho; have HCa3 := Aside0.mk (Kd.R_reads' ho).2.2; have hca3 := (Kd.R_reads' ho).2.1; have HBa3 := Aside0.mk hb; have HOa3 := Aside0.mk ho; clear hb ho; have ky0_a3 : wa3.cell? ⟨w.heap.size, 0, none⟩ = some (.slice A0 l0.length c0) := (yaa (show wa3.heap[w.heap.size]? = some (.cells #[.slice A0 l0.length c0, .slice A1 l1.length c1] 47 (0, 0)) from Z3_) 0).trans rfl; have ky1_a3 : wa3.cell? ⟨w.heap.size, 1, none⟩ = some (.slice A1 l1.length c1) := (yaa (show wa3.heap[w.heap.size]? = some (.cells #[.slice A0 l0.length c0, .slice A1 l1.length c1] 47 (0, 0)) from Z3_) 1).trans rfl)
        | (go_at_call 42; (with_reducible refine (yco.calls k _ _ s _ _ l0 _ _ ?s0 ?c0 ?s1 ?c1 H4.out).mono ?_); (case s0 => exact Z2_); (case c0 => assumption); (case s1 => exact Z2_); (case c1 => assumption); rintro e wa4 ⟨rfl, hb⟩; have HBa4 := Aside0.mk hb; clear hb; have ky0_a4 : wa4.cell? ⟨w.heap.size, 0, none⟩ = some (.slice A0 l0.length c0) := (yaa (show wa4.heap[w.heap.size]? = some (.cells #[.slice A0 l0.length c0, .slice A1 l1.length c1] 47 (0, 0)) from Z3_) 0).trans rfl; have ky1_a4 : wa4.cell? ⟨w.heap.size, 1, none⟩ = some (.slice A1 l1.length c1) := (yaa (show wa4.heap[w.heap.size]? = some (.cells #[.slice A0 l0.length c0, .slice A1 l1.length c1] 47 (0, 0)) from Z3_) 1).trans rfl))
       go_ret
       exact ⟨rfl, Z1_⟩
   · rw [if_neg hz] at h
     obtain rfl := Option.some.inj h
     obtain ⟨hz1, hz2⟩ := ne_of_len hz
     clear h hz
     go_enter Try.func30, Try.ntmps30
     go_wp2_with (first
      | (go_at_call 28; (with_reducible refine (ycq.calls k _ _ l0 _ _ l1 _ _ ?s0 ?c0 ?s1 ?c1 H1.out).mono ?_); (case s0 => exact Z2_); (case c0 => assumption); (case s1 => exact Z2_); (case c1 => assumption); rintro e wa1 ⟨rfl, hb⟩; have HBa1 := Aside0.mk hb; clear hb; have ky0_a1 : wa1.cell? ⟨w.heap.size, 0, none⟩ = some (.slice A0 l0.length c0) := (yaa (show wa1.heap[w.heap.size]? = some (.cells #[.slice A0 l0.length c0, .slice A1 l1.length c1] 47 (0, 0)) from Z3_) 0).trans rfl; have ky1_a1 : wa1.cell? ⟨w.heap.size, 1, none⟩ = some (.slice A1 l1.length c1) := (yaa (show wa1.heap[w.heap.size]? = some (.cells #[.slice A0 l0.length c0, .slice A1 l1.length c1] 47 (0, 0)) from Z3_) 1).trans rfl)
      | (go_at_call 23; (with_reducible refine (ydu.calls k _ _ l0 _ _ l1 _ _ ?s0 ?c0 ?s1 ?c1 H2.out).mono ?_); (case s0 => exact Z2_); (case c0 => assumption); (case s1 => exact Z2_); (case c1 => assumption); rintro e wa2 ⟨rfl, hb⟩; have HBa2 := Aside0.mk hb; clear hb; have ky0_a2 : wa2.cell? ⟨w.heap.size, 0, none⟩ = some (.slice A0 l0.length c0) := (yaa (show wa2.heap[w.heap.size]? = some (.cells #[.slice A0 l0.length c0, .slice A1 l1.length c1] 47 (0, 0)) from Z3_) 0).trans rfl; have ky1_a2 : wa2.cell? ⟨w.heap.size, 1, none⟩ = some (.slice A1 l1.length c1) := (yaa (show wa2.heap[w.heap.size]? = some (.cells #[.slice A0 l0.length c0, .slice A1 l1.length c1] 47 (0, 0)) from Z3_) 1).trans rfl))
     go_ret
     exact ⟨rfl, Z1_⟩
 · rw [if_neg hc] at h
   obtain rfl := Option.some.inj h
   obtain ⟨hc1, hc2⟩ := ne_of_len hc
   clear h hc
   go_enter Try.func30, Try.ntmps30
   go_wp2_with (first
    | (go_at_call 28; (with_reducible refine (ycq.calls k _ _ l0 _ _ l1 _ _ ?s0 ?c0 ?s1 ?c1 H1.out).mono ?_); (case s0 => exact Z2_); (case c0 => assumption); (case s1 => exact Z2_); (case c1 => assumption); rintro e wa1 ⟨rfl, hb⟩; have HBa1 := Aside0.mk hb; clear hb; have ky0_a1 : wa1.cell? ⟨w.heap.size, 0, none⟩ = some (.slice A0 l0.length c0) := (yaa (show wa1.heap[w.heap.size]? = some (.cells #[.slice A0 l0.length c0, .slice A1 l1.length c1] 47 (0, 0)) from Z3_) 0).trans rfl; have ky1_a1 : wa1.cell? ⟨w.heap.size, 1, none⟩ = some (.slice A1 l1.length c1) := (yaa (show wa1.heap[w.heap.size]? = some (.cells #[.slice A0 l0.length c0, .slice A1 l1.length c1] 47 (0, 0)) from Z3_) 1).trans rfl))
   go_ret
   exact ⟨rfl, Z1_⟩
end Go.Proofs.Ytgnaaaliadiekaa.B
end
