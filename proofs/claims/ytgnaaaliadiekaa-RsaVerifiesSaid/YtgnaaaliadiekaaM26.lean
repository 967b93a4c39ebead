/- A part of the proof (merged by pack.py, a program of this session: what the row's proof names). -/
import Derived.Test.YtgnaaaliadiekaaM4
import Derived.Test.YtgnaaaliadiekaaM14
import Derived.Test.YtgnaaaliadiekaaM25
import Derived.Test.YtgnaaaliadiekaaM0
section
namespace Go.Proofs.Ytgnaaaliadiekaa.B
open Go.RowKit Go.Proofs.YtgnaaaliadiekaaW.PrintWords Go.Proofs.YtgnaaaliadiekaaW.PrintLast Go.Proofs.YtgnaaaliadiekaaW.PrintMore
attribute [local go_sem] ycj ych ycs ycr ybw ybv yci ycg   -- for this text's walks alone
attribute [local go_sem] yca ybn ybz ybm
set_option linter.unusedVariables false
set_option linter.unusedSimpArgs false
def ycq.f (k : Nat) (l0_0 : List Int) (l0_1 : List Int) : Option (Int) := (ydu.f k l0_0 l0_1).bind fun t1002 => (if t1002 < 62 then (some 41) else (if t1002 > 256 then (some 41) else (if 0 < (l0_0.length : Int) then (if (Go.bits .and .u64 (rd l0_0 0) 1) = 0 then (some 41) else ((yfi.f k 3).bind fun t1004 => ((yco.f k l0_1 t1004).bind fun t1007 => (if t1007 < 0 then (some 41) else (if 0 < (l0_1.length : Int) then (if (Go.bits .and .u64 (rd l0_1 0) 1) = 0 then (some 41) else ((yco.f k l0_1 l0_0).bind fun t1009 => (if t1009 ≥ 0 then (some 41) else (some 0)))) else (none)))))) else (none))))
def ycq.T2 : Bool × List (List Nat × List Nat) := (true, [([], []), ([0], [0]), ([1], [1]), ([2], [2]), ([3, 2], [2, 3]), ([2, 4], [2, 4]), ([5, 2], [5]), ([6], [6]), ([7, 6], [6, 7]), ([8, 6], [6, 8]), ([9, 6], [6, 9]), ([10, 6], [6, 10]), ([11, 6], [6, 11]), ([6, 12], [6, 12]), ([13, 6], [13]), ([14], [14]), ([15, 14], [14, 15]), ([14, 14], [14]), ([16, 17, 17, 14], [14, 16, 17]), ([18, 14], [14, 18]), ([14, 19], [14, 19]), ([20, 18], [20]), ([21], [21]), ([22, 21], [21, 22]), ([23, 21], [21, 23]), ([24, 21], [21, 24]), ([25, 21], [21, 25]), ([26, 21], [21, 26]), ([21, 27], [21, 27]), ([28, 21], [28]), ([29], [29]), ([30, 29], [29, 30]), ([29], [29]), ([32, 29], [29, 32]), ([31, 33, 29, 29], [29, 31, 33]), ([34, 29], [29, 34]), ([29, 35], [29, 35])])
def ycq.B2 : List Nat := [0, 1, 3, 7, 15, 31, 63, 127, 255, 511, 1023, 2047, 4095, 8191, 16383, 32767, 65535, 32767, 262143, 524287, 1048575, 2097151, 4194303, 8388607, 16777215, 33554431, 67108863, 134217727, 268435455, 536870911, 1073741823, 2147483647, 1073741823, 5368709119, 17179869183, 34359738367, 68719476735]
theorem ycq.tab2 : rtab .any (opsOf Try.f28 2) = ycq.T2 := by kernel_rfl
theorem ycq.bits2 : yfg ycq.T2.2 ycq.B2 = true := by kernel_rfl
set_option maxHeartbeats 8000000 in
set_option maxRecDepth 100000 in
theorem ycq.calls (k : Nat) (A0_0 : Option Addr) (c0_0 : Nat) (l0_0 : List Int) (A0_1 : Option Addr) (c0_1 : Nat) (l0_1 : List Int) (r : Int) (w : World) (hr0_0 : Kd.C (Kd.int .u64) w A0_0 l0_0.length l0_0) (hc0_0 : l0_0.length ≤ c0_0) (hr0_1 : Kd.C (Kd.int .u64) w A0_1 l0_1.length l0_1) (hc0_1 : l0_1.length ≤ c0_1) (h : ycq.f k l0_0 l0_1 = some r) :
 Calls Try.prog 28 #[.agg #[.slice A0_0 l0_0.length c0_0, .slice A0_1 l0_1.length c0_1]] w fun e w' => e = .returned (.int .i64 r) ∧ Below w.heap.size w w' := by
 have hu47 := Try.underlying47
 have HR0_0 := Aside0.mk hr0_0
 have HC0_0 := Aside0.mk hc0_0
 clear hr0_0 hc0_0
 have HR0_1 := Aside0.mk hr0_1
 have HC0_1 := Aside0.mk hc0_1
 clear hr0_1 hc0_1
 have HB := Aside0.mk (Below.refl w.heap.size w)
 have H : ((ydu.f k l0_0 l0_1).bind fun t1002 => (if t1002 < 62 then (some 41) else (if t1002 > 256 then (some 41) else (if 0 < (l0_0.length : Int) then (if (Go.bits .and .u64 (rd l0_0 0) 1) = 0 then (some 41) else ((yfi.f k 3).bind fun t1004 => ((yco.f k l0_1 t1004).bind fun t1007 => (if t1007 < 0 then (some 41) else (if 0 < (l0_1.length : Int) then (if (Go.bits .and .u64 (rd l0_1 0) 1) = 0 then (some 41) else ((yco.f k l0_1 l0_0).bind fun t1009 => (if t1009 ≥ 0 then (some 41) else (some 0)))) else (none)))))) else (none))))) = some r := h
 clear h
 replace H := Option.bind_eq_some_iff.mp H
 obtain ⟨t1002, A20, H⟩ := H
 replace H : (if t1002 < 62 then (some 41) else (if t1002 > 256 then (some 41) else (if 0 < (l0_0.length : Int) then (if (Go.bits .and .u64 (rd l0_0 0) 1) = 0 then (some 41) else ((yfi.f k 3).bind fun t1004 => ((yco.f k l0_1 t1004).bind fun t1007 => (if t1007 < 0 then (some 41) else (if 0 < (l0_1.length : Int) then (if (Go.bits .and .u64 (rd l0_1 0) 1) = 0 then (some 41) else ((yco.f k l0_1 l0_0).bind fun t1009 => (if t1009 ≥ 0 then (some 41) else (some 0)))) else (none)))))) else (none)))) = some r := H
 have A2 := Aside0.mk A20
 clear A20
 by_cases c3 : t1002 < 62
 · rw [if_pos c3] at H
   have c3b0 : decide (t1002 < 62) = true := decide_eq_true c3
   clear c3
   obtain rfl := Option.some.inj H
   go_enter Try.func28, Try.ntmps28
   try go_wp2_with (first | ((with_reducible refine ybu (N := 1) rfl ?_); refine ydl ?hg (N := 1) ?hd (cs := #[.slice A0_0 l0_0.length c0_0, .slice A0_1 l0_1.length c0_1]) (t := 47) ?hr ?_; (case hd => rfl); (case hg => rfl); (case hr => first | (go_simp; done) | (go_simp; rfl)); intro gb1001 hg w4 hbox hb; have n0_ := Aside0.mk (yai Z7_ hb); have n1_ := Aside0.mk (hbox); have n2_ := Aside0.mk ((by rw [hg]; exact (yaj Z7_) : w.heap.size ≤ gb1001)); have n3_ := Aside0.mk ((by rw [hg]; exact (yaj Z7_) : w.heap.size ≤ gb1001)); clear HB; have HB := n0_; have BK1001 := n1_; have GW1001 := n2_; have GE1001 := n3_; clear n0_ n1_ n2_ n3_; clear hb hbox hg; have hcz5_0 : w4.cell? ⟨gb1001, 0, none⟩ = some (.slice A0_0 l0_0.length c0_0) := (yaa BK1001.out 0).trans rfl; have hcz5_1 : w4.cell? ⟨gb1001, 1, none⟩ = some (.slice A0_1 l0_1.length c0_1) := (yaa BK1001.out 1).trans rfl; have hfz5_0 := ybo BK1001.out 0; have hfz5_1 := ybo BK1001.out 1) | ((with_reducible refine yar (f := 23) rfl ?_); refine yce (some 5) rfl rfl Try.func23 (by kernel_rfl) rfl #[.agg #[.slice A0_0 l0_0.length c0_0, .slice A0_1 l0_1.length c0_1]] rfl Z6_ ?_; (with_reducible refine (ydu.calls k _ _ l0_0 _ _ l0_1 t1002 _ ?side1 ?side2 ?side3 ?side4 A2.out).mono ?_); (case side1 => repeat (first | exact (Kd.ybg HR0_0.out HB.out) | (with_reducible refine Kd.yau ?_ _) | (with_reducible refine Kd.yaw ?_ _) | (with_reducible refine Kd.ybe ?_))); (case side2 => exact HC0_0.out); (case side3 => repeat (first | exact (Kd.ybg HR0_1.out HB.out) | (with_reducible refine Kd.yau ?_ _) | (with_reducible refine Kd.yaw ?_ _) | (with_reducible refine Kd.ybe ?_))); (case side4 => exact HC0_1.out); rintro e w6 ⟨rfl, hb⟩; refine ⟨_, rfl, ?_⟩; have n0_ := Aside0.mk (ybq (g := gb1001) (o := .cells #[.slice A0_0 l0_0.length c0_0, .slice A0_1 l0_1.length c0_1] 47 (0, 0)) Z8_ hb); have n1_ := Aside0.mk (yai Z5_ hb); clear BK1001; clear HB; have BK1001 := n0_; have HB := n1_; clear n0_ n1_; (try clear hb); (try clear hb2); (try clear hk); (try clear hi)))
   have n0_ := Aside0.mk (yeg BK1001.out)
   have n1_ := Aside0.mk (yac HB.out)
   clear BK1001
   clear HB
   have BK1001 := n0_
   have HB := n1_
   clear n0_ n1_
   refine yeq (n := 37) (S := fun w' => True) (ds := []) Q9_ (by kernel_rfl) rfl rfl trivial (fun hHeld => ?_); refine yde ycq.tab2 ycq.bits2 (fun HT_ HW_ => ?_)
   generalize w6.drew = w7 at BK1001 HB hHeld ⊢
   refine pV 0 6 Q10_ (yae HT_.out (by kernel_rfl)) ?_
   refine pV 1 7 Q11_ (yae HT_.out (by kernel_rfl)) ?_
   refine pV 2 8 Q12_ (yae HT_.out (by kernel_rfl)) ?_
   refine pU 3 9 Q13_ (yae HT_.out (by kernel_rfl)) ?_
   refine pU 4 10 Q14_ (yae HT_.out (by kernel_rfl)) ?_
   refine pV 5 11 Q15_ (yae HT_.out (by kernel_rfl)) ?_
   refine pV 6 12 Q16_ (yae HT_.out (by kernel_rfl)) ?_
   refine pU 7 13 Q17_ (yae HT_.out (by kernel_rfl)) ?_
   refine pU 8 14 Q18_ (yae HT_.out (by kernel_rfl)) ?_
   refine pU 9 15 Q19_ (yae HT_.out (by kernel_rfl)) ?_
   refine pU 10 16 Q20_ (yae HT_.out (by kernel_rfl)) ?_
   refine pU 11 17 Q21_ (yae HT_.out (by kernel_rfl)) ?_
   refine pU 12 18 Q22_ (yae HT_.out (by kernel_rfl)) ?_
   refine pV 13 19 Q23_ (yae HT_.out (by kernel_rfl)) ?_
   refine pV 14 20 Q24_ (yae HT_.out (by kernel_rfl)) ?_
   refine pU 15 21 Q25_ (yae HT_.out (by kernel_rfl)) ?_
   refine pU 16 22 Q26_ (yae HT_.out (by kernel_rfl)) ?_
   refine pU 17 23 Q27_ (yae HT_.out (by kernel_rfl)) ?_
   refine pU 18 24 Q28_ (yae HT_.out (by kernel_rfl)) ?_
   refine pU 19 25 Q29_ (yae HT_.out (by kernel_rfl)) ?_
   refine pV 20 26 Q30_ (yae HT_.out (by kernel_rfl)) ?_
   refine pV 21 27 Q31_ (yae HT_.out (by kernel_rfl)) ?_
   refine pU 22 28 Q32_ (yae HT_.out (by kernel_rfl)) ?_
   refine pU 23 29 Q33_ (yae HT_.out (by kernel_rfl)) ?_
   refine pU 24 30 Q34_ (yae HT_.out (by kernel_rfl)) ?_
   refine pU 25 31 Q35_ (yae HT_.out (by kernel_rfl)) ?_
   refine pU 26 32 Q36_ (yae HT_.out (by kernel_rfl)) ?_
   refine pU 27 33 Q37_ (yae HT_.out (by kernel_rfl)) ?_
   refine pV 28 34 Q38_ (yae HT_.out (by kernel_rfl)) ?_
   refine pV 29 35 Q39_ (yae HT_.out (by kernel_rfl)) ?_
   refine pU 30 36 Q40_ (yae HT_.out (by kernel_rfl)) ?_
   refine pU 31 37 Q46_ (yae HT_.out (by kernel_rfl)) ?_
   refine pU 32 38 Q41_ (yae HT_.out (by kernel_rfl)) ?_
   refine pU 33 39 Q42_ (yae HT_.out (by kernel_rfl)) ?_
   refine pU 34 40 Q43_ (yae HT_.out (by kernel_rfl)) ?_
   refine pU 35 41 Q44_ (yae HT_.out (by kernel_rfl)) ?_
   refine pV 36 42 Q45_ (yae HT_.out (by kernel_rfl)) ?_
   refine yfk (ydx HT_.out (by kernel_rfl)) ?_
   try go_wp2
   go_ret
   exact ⟨by first | rfl | (simp [yap, yao] <;> rfl) | (simp [*, yap, yao] <;> rfl), by repeat (first | (with_reducible first | exact HB.out | apply yad | apply yab | apply yac | refine ybx ?_ GE1001.out) | exact HB.out)⟩
 · rw [if_neg c3] at H
   have c3b0 : decide (t1002 < 62) = false := decide_eq_false c3
   clear c3
   by_cases c8 : t1002 > 256
   · rw [if_pos c8] at H
     have c8b0 : decide (256 < t1002) = true := decide_eq_true c8
     clear c8
     obtain rfl := Option.some.inj H
     go_enter Try.func28, Try.ntmps28
     try go_wp2_with (first | ((with_reducible refine ybu (N := 1) rfl ?_); refine ydl ?hg (N := 1) ?hd (cs := #[.slice A0_0 l0_0.length c0_0, .slice A0_1 l0_1.length c0_1]) (t := 47) ?hr ?_; (case hd => rfl); (case hg => rfl); (case hr => first | (go_simp; done) | (go_simp; rfl)); intro gb1001 hg w9 hbox hb; have n0_ := Aside0.mk (yai Z7_ hb); have n1_ := Aside0.mk (hbox); have n2_ := Aside0.mk ((by rw [hg]; exact (yaj Z7_) : w.heap.size ≤ gb1001)); have n3_ := Aside0.mk ((by rw [hg]; exact (yaj Z7_) : w.heap.size ≤ gb1001)); clear HB; have HB := n0_; have BK1001 := n1_; have GW1001 := n2_; have GE1001 := n3_; clear n0_ n1_ n2_ n3_; clear hb hbox hg; have hcz10_0 : w9.cell? ⟨gb1001, 0, none⟩ = some (.slice A0_0 l0_0.length c0_0) := (yaa BK1001.out 0).trans rfl; have hcz10_1 : w9.cell? ⟨gb1001, 1, none⟩ = some (.slice A0_1 l0_1.length c0_1) := (yaa BK1001.out 1).trans rfl; have hfz10_0 := ybo BK1001.out 0; have hfz10_1 := ybo BK1001.out 1) | ((with_reducible refine yar (f := 23) rfl ?_); refine yce (some 5) rfl rfl Try.func23 (by kernel_rfl) rfl #[.agg #[.slice A0_0 l0_0.length c0_0, .slice A0_1 l0_1.length c0_1]] rfl Z6_ ?_; (with_reducible refine (ydu.calls k _ _ l0_0 _ _ l0_1 t1002 _ ?side1 ?side2 ?side3 ?side4 A2.out).mono ?_); (case side1 => repeat (first | exact (Kd.ybg HR0_0.out HB.out) | (with_reducible refine Kd.yau ?_ _) | (with_reducible refine Kd.yaw ?_ _) | (with_reducible refine Kd.ybe ?_))); (case side2 => exact HC0_0.out); (case side3 => repeat (first | exact (Kd.ybg HR0_1.out HB.out) | (with_reducible refine Kd.yau ?_ _) | (with_reducible refine Kd.yaw ?_ _) | (with_reducible refine Kd.ybe ?_))); (case side4 => exact HC0_1.out); rintro e w11 ⟨rfl, hb⟩; refine ⟨_, rfl, ?_⟩; have n0_ := Aside0.mk (ybq (g := gb1001) (o := .cells #[.slice A0_0 l0_0.length c0_0, .slice A0_1 l0_1.length c0_1] 47 (0, 0)) Z8_ hb); have n1_ := Aside0.mk (yai Z5_ hb); clear BK1001; clear HB; have BK1001 := n0_; have HB := n1_; clear n0_ n1_; (try clear hb); (try clear hb2); (try clear hk); (try clear hi)))
     have n0_ := Aside0.mk (yeg BK1001.out)
     have n1_ := Aside0.mk (yac HB.out)
     clear BK1001
     clear HB
     have BK1001 := n0_
     have HB := n1_
     clear n0_ n1_
     refine yeq (n := 37) (S := fun w' => True) (ds := []) Q9_ (by kernel_rfl) rfl rfl trivial (fun hHeld => ?_); refine yde ycq.tab2 ycq.bits2 (fun HT_ HW_ => ?_)
     generalize w11.drew = w12 at BK1001 HB hHeld ⊢
     refine pV 0 6 Q10_ (yae HT_.out (by kernel_rfl)) ?_
     refine pV 1 7 Q11_ (yae HT_.out (by kernel_rfl)) ?_
     refine pV 2 8 Q12_ (yae HT_.out (by kernel_rfl)) ?_
     refine pV 3 9 Q13_ (yae HT_.out (by kernel_rfl)) ?_
     refine pV 4 10 Q14_ (yae HT_.out (by kernel_rfl)) ?_
     refine pV 5 11 Q15_ (yae HT_.out (by kernel_rfl)) ?_
     refine pV 6 12 Q16_ (yae HT_.out (by kernel_rfl)) ?_
     refine pU 7 13 Q17_ (yae HT_.out (by kernel_rfl)) ?_
     refine pU 8 14 Q18_ (yae HT_.out (by kernel_rfl)) ?_
     refine pU 9 15 Q19_ (yae HT_.out (by kernel_rfl)) ?_
     refine pU 10 16 Q20_ (yae HT_.out (by kernel_rfl)) ?_
     refine pU 11 17 Q21_ (yae HT_.out (by kernel_rfl)) ?_
     refine pU 12 18 Q22_ (yae HT_.out (by kernel_rfl)) ?_
     refine pV 13 19 Q23_ (yae HT_.out (by kernel_rfl)) ?_
     refine pV 14 20 Q24_ (yae HT_.out (by kernel_rfl)) ?_
     refine pU 15 21 Q25_ (yae HT_.out (by kernel_rfl)) ?_
     refine pU 16 22 Q26_ (yae HT_.out (by kernel_rfl)) ?_
     refine pU 17 23 Q27_ (yae HT_.out (by kernel_rfl)) ?_
     refine pU 18 24 Q28_ (yae HT_.out (by kernel_rfl)) ?_
     refine pU 19 25 Q29_ (yae HT_.out (by kernel_rfl)) ?_
     refine pV 20 26 Q30_ (yae HT_.out (by kernel_rfl)) ?_
     refine pV 21 27 Q31_ (yae HT_.out (by kernel_rfl)) ?_
     refine pU 22 28 Q32_ (yae HT_.out (by kernel_rfl)) ?_
     refine pU 23 29 Q33_ (yae HT_.out (by kernel_rfl)) ?_
     refine pU 24 30 Q34_ (yae HT_.out (by kernel_rfl)) ?_
     refine pU 25 31 Q35_ (yae HT_.out (by kernel_rfl)) ?_
     refine pU 26 32 Q36_ (yae HT_.out (by kernel_rfl)) ?_
     refine pU 27 33 Q37_ (yae HT_.out (by kernel_rfl)) ?_
     refine pV 28 34 Q38_ (yae HT_.out (by kernel_rfl)) ?_
     refine pV 29 35 Q39_ (yae HT_.out (by kernel_rfl)) ?_
     refine pU 30 36 Q40_ (yae HT_.out (by kernel_rfl)) ?_
     refine pU 31 37 Q46_ (yae HT_.out (by kernel_rfl)) ?_
     refine pU 32 38 Q41_ (yae HT_.out (by kernel_rfl)) ?_
     refine pU 33 39 Q42_ (yae HT_.out (by kernel_rfl)) ?_
     refine pU 34 40 Q43_ (yae HT_.out (by kernel_rfl)) ?_
     refine pU 35 41 Q44_ (yae HT_.out (by kernel_rfl)) ?_
     refine pV 36 42 Q45_ (yae HT_.out (by kernel_rfl)) ?_
     refine yfk (ydx HT_.out (by kernel_rfl)) ?_
     try go_wp2
     go_ret
     exact ⟨by first | rfl | (simp [yap, yao] <;> rfl) | (simp [*, yap, yao] <;> rfl), by repeat (first | (with_reducible first | exact HB.out | apply yad | apply yab | apply yac | refine ybx ?_ GE1001.out) | exact HB.out)⟩
   · rw [if_neg c8] at H
     have c8b0 : decide (256 < t1002) = false := decide_eq_false c8
     clear c8
     by_cases c13 : 0 < (l0_0.length : Int)
     · rw [if_pos c13] at H
       have c13b0 : decide (0 < (l0_0.length : Int)) = true := decide_eq_true c13
       have c13b1 : decide (0 < l0_0.length) = true := decide_eq_true (by omega)
       clear c13
       by_cases c14 : (Go.bits .and .u64 (rd l0_0 0) 1) = 0
       · rw [if_pos c14] at H
         have c14b0 : ((Go.bits .and .u64 (rd l0_0 0) 1) == 0) = true := beq_iff_eq.mpr c14
         have c14b1 : ((Go.bits .and .u64 (rd l0_0 0) 1) != 0) = false := bne_eq_false_iff_eq.mpr c14
         clear c14
         obtain rfl := Option.some.inj H
         go_enter Try.func28, Try.ntmps28
         try go_wp2_with (first | ((with_reducible refine ybu (N := 1) rfl ?_); refine ydl ?hg (N := 1) ?hd (cs := #[.slice A0_0 l0_0.length c0_0, .slice A0_1 l0_1.length c0_1]) (t := 47) ?hr ?_; (case hd => rfl); (case hg => rfl); (case hr => first | (go_simp; done) | (go_simp; rfl)); intro gb1001 hg w15 hbox hb; have n0_ := Aside0.mk (yai Z7_ hb); have n1_ := Aside0.mk (hbox); have n2_ := Aside0.mk ((by rw [hg]; exact (yaj Z7_) : w.heap.size ≤ gb1001)); have n3_ := Aside0.mk ((by rw [hg]; exact (yaj Z7_) : w.heap.size ≤ gb1001)); clear HB; have HB := n0_; have BK1001 := n1_; have GW1001 := n2_; have GE1001 := n3_; clear n0_ n1_ n2_ n3_; clear hb hbox hg; have hcz16_0 : w15.cell? ⟨gb1001, 0, none⟩ = some (.slice A0_0 l0_0.length c0_0) := (yaa BK1001.out 0).trans rfl; have hcz16_1 : w15.cell? ⟨gb1001, 1, none⟩ = some (.slice A0_1 l0_1.length c0_1) := (yaa BK1001.out 1).trans rfl; have hfz16_0 := ybo BK1001.out 0; have hfz16_1 := ybo BK1001.out 1) | ((with_reducible refine yar (f := 23) rfl ?_); refine yce (some 5) rfl rfl Try.func23 (by kernel_rfl) rfl #[.agg #[.slice A0_0 l0_0.length c0_0, .slice A0_1 l0_1.length c0_1]] rfl Z6_ ?_; (with_reducible refine (ydu.calls k _ _ l0_0 _ _ l0_1 t1002 _ ?side1 ?side2 ?side3 ?side4 A2.out).mono ?_); (case side1 => repeat (first | exact (Kd.ybg HR0_0.out HB.out) | (with_reducible refine Kd.yau ?_ _) | (with_reducible refine Kd.yaw ?_ _) | (with_reducible refine Kd.ybe ?_))); (case side2 => exact HC0_0.out); (case side3 => repeat (first | exact (Kd.ybg HR0_1.out HB.out) | (with_reducible refine Kd.yau ?_ _) | (with_reducible refine Kd.yaw ?_ _) | (with_reducible refine Kd.ybe ?_))); (case side4 => exact HC0_1.out); rintro e w17 ⟨rfl, hb⟩; refine ⟨_, rfl, ?_⟩; have n0_ := Aside0.mk (ybq (g := gb1001) (o := .cells #[.slice A0_0 l0_0.length c0_0, .slice A0_1 l0_1.length c0_1] 47 (0, 0)) Z8_ hb); have n1_ := Aside0.mk (yai Z5_ hb); clear BK1001; clear HB; have BK1001 := n0_; have HB := n1_; clear n0_ n1_; (try clear hb); (try clear hb2); (try clear hk); (try clear hi)))
         have n0_ := Aside0.mk (yeg BK1001.out)
         have n1_ := Aside0.mk (yac HB.out)
         clear BK1001
         clear HB
         have BK1001 := n0_
         have HB := n1_
         clear n0_ n1_
         have p1003 : 0 ≤ (0 : Int) := (by omega)
         have q1003 : 0 < (l0_0.length : Int) := of_decide_eq_true Z26_
         obtain ⟨ad1003, e1003, hx1003_0⟩ := Kd.ybs HR0_0.out 0 p1003 q1003
         have hw1003_0 := hx1003_0
         (try rw [show ((0 : Int)).toNat = 0 from rfl] at hw1003_0)
         (try rw [show 0 * 1 = 0 from rfl] at hw1003_0)
         (try rw [Addr.add_zero'] at hw1003_0)
         cases e1003
         have qi1003 : (0 < l0_0.length) = True := eq_true (by omega)
         (try rw [show ((0 : Int)).toNat = 0 from rfl] at hx1003_0)
         (try rw [Addr.add_zero'] at hx1003_0)
         replace hx1003_0 := (HB.out.cell (World.block_lt_of_cell? w _ hx1003_0)).trans hx1003_0
         replace p1003 := eq_true p1003
         replace q1003 := eq_true q1003
         refine yeq (n := 37) (S := fun w' => w'.cell? ⟨gb1001, 0, none⟩ = some (.slice (some ad1003) l0_0.length c0_0) ∧ w'.cell? ⟨gb1001, 1, none⟩ = some (.slice A0_1 l0_1.length c0_1) ∧ w'.cell? ad1003 = some (.int .u64 (rd l0_0 0))) (ds := []) Q9_ (by kernel_rfl) rfl rfl ⟨(yaa BK1001.out 0).trans rfl, (yaa BK1001.out 1).trans rfl, ((HB.out.cell (World.block_lt_of_cell? w _ hw1003_0)).trans hw1003_0)⟩ (fun hHeld => ?_); refine yde ycq.tab2 ycq.bits2 (fun HT_ HW_ => ?_)
         generalize w17.drew = w18 at BK1001 HB hx1003_0 hHeld ⊢
         refine pV 0 6 Q10_ (yae HT_.out (by kernel_rfl)) ?_
         refine pV 1 7 Q11_ (yae HT_.out (by kernel_rfl)) ?_
         refine pV 2 8 Q12_ (yae HT_.out (by kernel_rfl)) ?_
         refine pV 3 9 Q13_ (yae HT_.out (by kernel_rfl)) ?_
         refine pV 4 10 Q14_ (yae HT_.out (by kernel_rfl)) ?_
         refine pV 5 11 Q15_ (yae HT_.out (by kernel_rfl)) ?_
         refine pV 6 12 Q16_ (yae HT_.out (by kernel_rfl)) ?_
         refine pV 7 13 Q17_ (yae HT_.out (by kernel_rfl)) ?_
         refine pT3 8 14 Q18_ (ycd HT_.out HW_.out (by kernel_rfl)) hHeld ?_
         refine pV 9 15 Q19_ (yae HT_.out (by kernel_rfl)) ?_
         refine pT3 10 16 Q20_ (ycd HT_.out HW_.out (by kernel_rfl)) hHeld ?_
         refine pV 11 17 Q21_ (yae HT_.out (by kernel_rfl)) ?_
         refine pV 12 18 Q22_ (yae HT_.out (by kernel_rfl)) ?_
         refine pV 13 19 Q23_ (yae HT_.out (by kernel_rfl)) ?_
         refine pV 14 20 Q24_ (yae HT_.out (by kernel_rfl)) ?_
         refine pU 15 21 Q25_ (yae HT_.out (by kernel_rfl)) ?_
         refine pU 16 22 Q26_ (yae HT_.out (by kernel_rfl)) ?_
         refine pU 17 23 Q27_ (yae HT_.out (by kernel_rfl)) ?_
         refine pU 18 24 Q28_ (yae HT_.out (by kernel_rfl)) ?_
         refine pU 19 25 Q29_ (yae HT_.out (by kernel_rfl)) ?_
         refine pV 20 26 Q30_ (yae HT_.out (by kernel_rfl)) ?_
         refine pV 21 27 Q31_ (yae HT_.out (by kernel_rfl)) ?_
         refine pU 22 28 Q32_ (yae HT_.out (by kernel_rfl)) ?_
         refine pU 23 29 Q33_ (yae HT_.out (by kernel_rfl)) ?_
         refine pU 24 30 Q34_ (yae HT_.out (by kernel_rfl)) ?_
         refine pU 25 31 Q35_ (yae HT_.out (by kernel_rfl)) ?_
         refine pU 26 32 Q36_ (yae HT_.out (by kernel_rfl)) ?_
         refine pU 27 33 Q37_ (yae HT_.out (by kernel_rfl)) ?_
         refine pV 28 34 Q38_ (yae HT_.out (by kernel_rfl)) ?_
         refine pV 29 35 Q39_ (yae HT_.out (by kernel_rfl)) ?_
         refine pU 30 36 Q40_ (yae HT_.out (by kernel_rfl)) ?_
         refine pU 31 37 Q46_ (yae HT_.out (by kernel_rfl)) ?_
         refine pU 32 38 Q41_ (yae HT_.out (by kernel_rfl)) ?_
         refine pU 33 39 Q42_ (yae HT_.out (by kernel_rfl)) ?_
         refine pU 34 40 Q43_ (yae HT_.out (by kernel_rfl)) ?_
         refine pU 35 41 Q44_ (yae HT_.out (by kernel_rfl)) ?_
         refine pV 36 42 Q45_ (yae HT_.out (by kernel_rfl)) ?_
         refine yfk (ydx HT_.out (by kernel_rfl)) ?_
         try go_wp2
         go_ret
         exact ⟨by first | rfl | (simp [yap, yao] <;> rfl) | (simp [*, yap, yao] <;> rfl), by repeat (first | (with_reducible first | exact HB.out | apply yad | apply yab | apply yac | refine ybx ?_ GE1001.out) | exact HB.out)⟩
       · rw [if_neg c14] at H
         have c14b0 : ((Go.bits .and .u64 (rd l0_0 0) 1) == 0) = false := beq_eq_false_iff_ne.mpr c14
         have c14b1 : ((Go.bits .and .u64 (rd l0_0 0) 1) != 0) = true := bne_iff_ne.mpr c14
         replace H := Option.bind_eq_some_iff.mp H
         obtain ⟨t1004, A190, H⟩ := H
         replace H : ((yco.f k l0_1 t1004).bind fun t1007 => (if t1007 < 0 then (some 41) else (if 0 < (l0_1.length : Int) then (if (Go.bits .and .u64 (rd l0_1 0) 1) = 0 then (some 41) else ((yco.f k l0_1 l0_0).bind fun t1009 => (if t1009 ≥ 0 then (some 41) else (some 0)))) else (none)))) = some r := H
         have A19 := Aside0.mk A190
         clear A190
         replace H := Option.bind_eq_some_iff.mp H
         obtain ⟨t1007, A200, H⟩ := H
         replace H : (if t1007 < 0 then (some 41) else (if 0 < (l0_1.length : Int) then (if (Go.bits .and .u64 (rd l0_1 0) 1) = 0 then (some 41) else ((yco.f k l0_1 l0_0).bind fun t1009 => (if t1009 ≥ 0 then (some 41) else (some 0)))) else (none))) = some r := H
         have A20 := Aside0.mk A200
         clear A200
         by_cases c21 : t1007 < 0
         · rw [if_pos c21] at H
           have c21b0 : decide (t1007 < 0) = true := decide_eq_true c21
           clear c21
           obtain rfl := Option.some.inj H
           go_enter Try.func28, Try.ntmps28
           try go_wp2_with (first | ((with_reducible refine ybu (N := 1) rfl ?_); refine ydl ?hg (N := 1) ?hd (cs := #[.slice A0_0 l0_0.length c0_0, .slice A0_1 l0_1.length c0_1]) (t := 47) ?hr ?_; (case hd => rfl); (case hg => rfl); (case hr => first | (go_simp; done) | (go_simp; rfl)); intro gb1001 hg w22 hbox hb; have n0_ := Aside0.mk (yai Z7_ hb); have n1_ := Aside0.mk (hbox); have n2_ := Aside0.mk ((by rw [hg]; exact (yaj Z7_) : w.heap.size ≤ gb1001)); have n3_ := Aside0.mk ((by rw [hg]; exact (yaj Z7_) : w.heap.size ≤ gb1001)); clear HB; have HB := n0_; have BK1001 := n1_; have GW1001 := n2_; have GE1001 := n3_; clear n0_ n1_ n2_ n3_; clear hb hbox hg; have hcz23_0 : w22.cell? ⟨gb1001, 0, none⟩ = some (.slice A0_0 l0_0.length c0_0) := (yaa BK1001.out 0).trans rfl; have hcz23_1 : w22.cell? ⟨gb1001, 1, none⟩ = some (.slice A0_1 l0_1.length c0_1) := (yaa BK1001.out 1).trans rfl; have hfz23_0 := ybo BK1001.out 0; have hfz23_1 := ybo BK1001.out 1) | ((with_reducible refine yar (f := 23) rfl ?_); refine yce (some 5) rfl rfl Try.func23 (by kernel_rfl) rfl #[.agg #[.slice A0_0 l0_0.length c0_0, .slice A0_1 l0_1.length c0_1]] rfl Z6_ ?_; (with_reducible refine (ydu.calls k _ _ l0_0 _ _ l0_1 t1002 _ ?side1 ?side2 ?side3 ?side4 A2.out).mono ?_); (case side1 => repeat (first | exact (Kd.ybg HR0_0.out HB.out) | (with_reducible refine Kd.yau ?_ _) | (with_reducible refine Kd.yaw ?_ _) | (with_reducible refine Kd.ybe ?_))); (case side2 => exact HC0_0.out); (case side3 => repeat (first | exact (Kd.ybg HR0_1.out HB.out) | (with_reducible refine Kd.yau ?_ _) | (with_reducible refine Kd.yaw ?_ _) | (with_reducible refine Kd.ybe ?_))); (case side4 => exact HC0_1.out); rintro e w24 ⟨rfl, hb⟩; refine ⟨_, rfl, ?_⟩; have n0_ := Aside0.mk (ybq (g := gb1001) (o := .cells #[.slice A0_0 l0_0.length c0_0, .slice A0_1 l0_1.length c0_1] 47 (0, 0)) Z8_ hb); have n1_ := Aside0.mk (yai Z5_ hb); clear BK1001; clear HB; have BK1001 := n0_; have HB := n1_; clear n0_ n1_; (try clear hb); (try clear hb2); (try clear hk); (try clear hi)))
           have n0_ := Aside0.mk (yeg BK1001.out)
           have n1_ := Aside0.mk (yac HB.out)
           clear BK1001
           clear HB
           have BK1001 := n0_
           have HB := n1_
           clear n0_ n1_
           have p1003 : 0 ≤ (0 : Int) := (by omega)
           have q1003 : 0 < (l0_0.length : Int) := of_decide_eq_true Z26_
           obtain ⟨ad1003, e1003, hx1003_0⟩ := Kd.ybs HR0_0.out 0 p1003 q1003
           have hw1003_0 := hx1003_0
           (try rw [show ((0 : Int)).toNat = 0 from rfl] at hw1003_0)
           (try rw [show 0 * 1 = 0 from rfl] at hw1003_0)
           (try rw [Addr.add_zero'] at hw1003_0)
           cases e1003
           have qi1003 : (0 < l0_0.length) = True := eq_true (by omega)
           (try rw [show ((0 : Int)).toNat = 0 from rfl] at hx1003_0)
           (try rw [Addr.add_zero'] at hx1003_0)
           replace hx1003_0 := (HB.out.cell (World.block_lt_of_cell? w _ hx1003_0)).trans hx1003_0
           replace p1003 := eq_true p1003
           replace q1003 := eq_true q1003
           refine yeq (n := 37) (S := fun w' => w'.cell? ⟨gb1001, 0, none⟩ = some (.slice (some ad1003) l0_0.length c0_0) ∧ w'.cell? ⟨gb1001, 1, none⟩ = some (.slice A0_1 l0_1.length c0_1) ∧ w'.cell? ad1003 = some (.int .u64 (rd l0_0 0))) (ds := []) Q9_ (by kernel_rfl) rfl rfl ⟨(yaa BK1001.out 0).trans rfl, (yaa BK1001.out 1).trans rfl, ((HB.out.cell (World.block_lt_of_cell? w _ hw1003_0)).trans hw1003_0)⟩ (fun hHeld => ?_); refine yde ycq.tab2 ycq.bits2 (fun HT_ HW_ => ?_)
           generalize w24.drew = w25 at BK1001 HB hx1003_0 hHeld ⊢
           refine pV 0 6 Q10_ (yae HT_.out (by kernel_rfl)) ?_
           refine pV 1 7 Q11_ (yae HT_.out (by kernel_rfl)) ?_
           refine pV 2 8 Q12_ (yae HT_.out (by kernel_rfl)) ?_
           refine pV 3 9 Q13_ (yae HT_.out (by kernel_rfl)) ?_
           refine pV 4 10 Q14_ (yae HT_.out (by kernel_rfl)) ?_
           refine pV 5 11 Q15_ (yae HT_.out (by kernel_rfl)) ?_
           refine pV 6 12 Q16_ (yae HT_.out (by kernel_rfl)) ?_
           refine pV 7 13 Q17_ (yae HT_.out (by kernel_rfl)) ?_
           refine pT3 8 14 Q18_ (ycd HT_.out HW_.out (by kernel_rfl)) hHeld ?_
           refine pV 9 15 Q19_ (yae HT_.out (by kernel_rfl)) ?_
           refine pT3 10 16 Q20_ (ycd HT_.out HW_.out (by kernel_rfl)) hHeld ?_
           refine pV 11 17 Q21_ (yae HT_.out (by kernel_rfl)) ?_
           refine pV 12 18 Q22_ (yae HT_.out (by kernel_rfl)) ?_
           refine pV 13 19 Q23_ (yae HT_.out (by kernel_rfl)) ?_
           refine pV 14 20 Q24_ (yae HT_.out (by kernel_rfl)) ?_
           refine pV 15 21 Q25_ (yae HT_.out (by kernel_rfl)) ?_
           refine pT3 16 22 Q26_ (ycd HT_.out HW_.out (by kernel_rfl)) hHeld ?_
           refine one_ (i := 17) (N := some 23) Q27_ rfl rfl (ydr HT_.out (by kernel_rfl)) (by decide) (fun K hK => ?_)
           refine yfa Try.func39 (by kernel_rfl) rfl #[.int .u64 3] (by rfl) rfl rfl Z6_ ?_
           with_reducible refine (yfi.calls k 3 t1004 _ A19.out).mono ?_
           rintro e w26 ⟨v1005, rfl, ho0, hb⟩
           refine ⟨_, rfl, ?_⟩
           have n0_ := Aside0.mk (Kd.ybl ho0 (yaj Z5_))
           have n1_ := Aside0.mk (ybq (g := gb1001) (o := .cells #[.slice (some ad1003) l0_0.length c0_0, .slice A0_1 l0_1.length c0_1] 47 (0, 0)) Z8_ hb)
           have n2_ := Aside0.mk (yai Z5_ hb)
           clear BK1001
           clear HB
           have HO1006 := n0_
           have BK1001 := n1_
           have HB := n2_
           clear n0_ n1_ n2_
           (try clear hb)
           (try clear hb2)
           (try clear hk)
           (try clear hi)
           (try clear ho0)
           obtain ⟨Ao27, co27, eo27⟩ := Kd.ybc HO1006.out
           (first | subst eo27 | (injection eo27 with f1_ f2_ f3_; have f4_ := f1_.symm; have f5_ := f3_.symm; clear f1_ f2_ f3_; subst f4_; subst f5_))
           refine hK.out _ _ ⟨(yaa BK1001.out 0).trans rfl, (yaa BK1001.out 1).trans rfl, ((HB.out.cell (World.block_lt_of_cell? w _ hw1003_0)).trans hw1003_0)⟩ (fun hHeld => ?_)
           clear hK K
           refine pN 23 ?_
           refine one_ (i := 18) (N := some 24) Q28_ rfl rfl (ydr HT_.out (by kernel_rfl)) (by decide) (fun K hK => ?_)
           refine yfa Try.func42 (by kernel_rfl) rfl #[.slice A0_1 l0_1.length c0_1, .slice Ao27 t1004.length co27] (by rfl) rfl rfl Z6_ ?_
           with_reducible refine (yco.calls k _ _ l0_1 _ _ t1004 t1007 _ ?side1 ?side2 ?side3 ?side4 A20.out).mono ?_
           (case side1 => repeat (first | exact (Kd.ybg HR0_1.out HB.out) | (with_reducible refine Kd.yau ?_ _) | (with_reducible refine Kd.yaw ?_ _) | (with_reducible refine Kd.ybe ?_)))
           (case side2 => exact HC0_1.out)
           (case side3 => repeat (first | exact (Kd.R_reads' HO1006.out).2.2 | (with_reducible refine Kd.yau ?_ _) | (with_reducible refine Kd.yaw ?_ _) | (with_reducible refine Kd.ybe ?_)))
           (case side4 => exact (Kd.R_reads' HO1006.out).2.1)
           rintro e w28 ⟨rfl, hb⟩
           refine ⟨_, rfl, ?_⟩
           have n0_ := Aside0.mk (Kd.ycc Z10_ hb)
           have n1_ := Aside0.mk (ybq (g := gb1001) (o := .cells #[.slice (some ad1003) l0_0.length c0_0, .slice A0_1 l0_1.length c0_1] 47 (0, 0)) Z8_ hb)
           have n2_ := Aside0.mk (yai Z5_ hb)
           clear HO1006
           clear BK1001
           clear HB
           have HO1006 := n0_
           have BK1001 := n1_
           have HB := n2_
           clear n0_ n1_ n2_
           (try clear hb)
           (try clear hb2)
           (try clear hk)
           (try clear hi)
           refine hK.out _ _ ⟨(yaa BK1001.out 0).trans rfl, (yaa BK1001.out 1).trans rfl, ((HB.out.cell (World.block_lt_of_cell? w _ hw1003_0)).trans hw1003_0)⟩ (fun hHeld => ?_)
           clear hK K
           refine pN 24 ?_
           refine pV 19 25 Q29_ (yae HT_.out (by kernel_rfl)) ?_
           refine pV 20 26 Q30_ (yae HT_.out (by kernel_rfl)) ?_
           refine pV 21 27 Q31_ (yae HT_.out (by kernel_rfl)) ?_
           refine pU 22 28 Q32_ (yae HT_.out (by kernel_rfl)) ?_
           refine pU 23 29 Q33_ (yae HT_.out (by kernel_rfl)) ?_
           refine pU 24 30 Q34_ (yae HT_.out (by kernel_rfl)) ?_
           refine pU 25 31 Q35_ (yae HT_.out (by kernel_rfl)) ?_
           refine pU 26 32 Q36_ (yae HT_.out (by kernel_rfl)) ?_
           refine pU 27 33 Q37_ (yae HT_.out (by kernel_rfl)) ?_
           refine pV 28 34 Q38_ (yae HT_.out (by kernel_rfl)) ?_
           refine pV 29 35 Q39_ (yae HT_.out (by kernel_rfl)) ?_
           refine pU 30 36 Q40_ (yae HT_.out (by kernel_rfl)) ?_
           refine pU 31 37 Q46_ (yae HT_.out (by kernel_rfl)) ?_
           refine pU 32 38 Q41_ (yae HT_.out (by kernel_rfl)) ?_
           refine pU 33 39 Q42_ (yae HT_.out (by kernel_rfl)) ?_
           refine pU 34 40 Q43_ (yae HT_.out (by kernel_rfl)) ?_
           refine pU 35 41 Q44_ (yae HT_.out (by kernel_rfl)) ?_
           refine pV 36 42 Q45_ (yae HT_.out (by kernel_rfl)) ?_
           refine yfk (ydx HT_.out (by kernel_rfl)) ?_
           try go_wp2
           go_ret
           exact ⟨by first | rfl | (simp [yap, yao] <;> rfl) | (simp [*, yap, yao] <;> rfl), by repeat (first | (with_reducible first | exact HB.out | apply yad | apply yab | apply yac | refine ybx ?_ GE1001.out) | exact HB.out)⟩
         · rw [if_neg c21] at H
           have c21b0 : decide (t1007 < 0) = false := decide_eq_false c21
           clear c21
           by_cases c29 : 0 < (l0_1.length : Int)
           · rw [if_pos c29] at H
             have c29b0 : decide (0 < (l0_1.length : Int)) = true := decide_eq_true c29
             have c29b1 : decide (0 < l0_1.length) = true := decide_eq_true (by omega)
             clear c29
             by_cases c30 : (Go.bits .and .u64 (rd l0_1 0) 1) = 0
             · rw [if_pos c30] at H
               have c30b0 : ((Go.bits .and .u64 (rd l0_1 0) 1) == 0) = true := beq_iff_eq.mpr c30
               have c30b1 : ((Go.bits .and .u64 (rd l0_1 0) 1) != 0) = false := bne_eq_false_iff_eq.mpr c30
               clear c30
               obtain rfl := Option.some.inj H
               go_enter Try.func28, Try.ntmps28
               try go_wp2_with (first | ((with_reducible refine ybu (N := 1) rfl ?_); refine ydl ?hg (N := 1) ?hd (cs := #[.slice A0_0 l0_0.length c0_0, .slice A0_1 l0_1.length c0_1]) (t := 47) ?hr ?_; (case hd => rfl); (case hg => rfl); (case hr => first | (go_simp; done) | (go_simp; rfl)); intro gb1001 hg w31 hbox hb; have n0_ := Aside0.mk (yai Z7_ hb); have n1_ := Aside0.mk (hbox); have n2_ := Aside0.mk ((by rw [hg]; exact (yaj Z7_) : w.heap.size ≤ gb1001)); have n3_ := Aside0.mk ((by rw [hg]; exact (yaj Z7_) : w.heap.size ≤ gb1001)); clear HB; have HB := n0_; have BK1001 := n1_; have GW1001 := n2_; have GE1001 := n3_; clear n0_ n1_ n2_ n3_; clear hb hbox hg; have hcz32_0 : w31.cell? ⟨gb1001, 0, none⟩ = some (.slice A0_0 l0_0.length c0_0) := (yaa BK1001.out 0).trans rfl; have hcz32_1 : w31.cell? ⟨gb1001, 1, none⟩ = some (.slice A0_1 l0_1.length c0_1) := (yaa BK1001.out 1).trans rfl; have hfz32_0 := ybo BK1001.out 0; have hfz32_1 := ybo BK1001.out 1) | ((with_reducible refine yar (f := 23) rfl ?_); refine yce (some 5) rfl rfl Try.func23 (by kernel_rfl) rfl #[.agg #[.slice A0_0 l0_0.length c0_0, .slice A0_1 l0_1.length c0_1]] rfl Z6_ ?_; (with_reducible refine (ydu.calls k _ _ l0_0 _ _ l0_1 t1002 _ ?side1 ?side2 ?side3 ?side4 A2.out).mono ?_); (case side1 => repeat (first | exact (Kd.ybg HR0_0.out HB.out) | (with_reducible refine Kd.yau ?_ _) | (with_reducible refine Kd.yaw ?_ _) | (with_reducible refine Kd.ybe ?_))); (case side2 => exact HC0_0.out); (case side3 => repeat (first | exact (Kd.ybg HR0_1.out HB.out) | (with_reducible refine Kd.yau ?_ _) | (with_reducible refine Kd.yaw ?_ _) | (with_reducible refine Kd.ybe ?_))); (case side4 => exact HC0_1.out); rintro e w33 ⟨rfl, hb⟩; refine ⟨_, rfl, ?_⟩; have n0_ := Aside0.mk (ybq (g := gb1001) (o := .cells #[.slice A0_0 l0_0.length c0_0, .slice A0_1 l0_1.length c0_1] 47 (0, 0)) Z8_ hb); have n1_ := Aside0.mk (yai Z5_ hb); clear BK1001; clear HB; have BK1001 := n0_; have HB := n1_; clear n0_ n1_; (try clear hb); (try clear hb2); (try clear hk); (try clear hi)))
               have n0_ := Aside0.mk (yeg BK1001.out)
               have n1_ := Aside0.mk (yac HB.out)
               clear BK1001
               clear HB
               have BK1001 := n0_
               have HB := n1_
               clear n0_ n1_
               have p1003 : 0 ≤ (0 : Int) := (by omega)
               have q1003 : 0 < (l0_0.length : Int) := of_decide_eq_true Z26_
               obtain ⟨ad1003, e1003, hx1003_0⟩ := Kd.ybs HR0_0.out 0 p1003 q1003
               have hw1003_0 := hx1003_0
               (try rw [show ((0 : Int)).toNat = 0 from rfl] at hw1003_0)
               (try rw [show 0 * 1 = 0 from rfl] at hw1003_0)
               (try rw [Addr.add_zero'] at hw1003_0)
               cases e1003
               have qi1003 : (0 < l0_0.length) = True := eq_true (by omega)
               (try rw [show ((0 : Int)).toNat = 0 from rfl] at hx1003_0)
               (try rw [Addr.add_zero'] at hx1003_0)
               replace hx1003_0 := (HB.out.cell (World.block_lt_of_cell? w _ hx1003_0)).trans hx1003_0
               replace p1003 := eq_true p1003
               replace q1003 := eq_true q1003
               have p1008 : 0 ≤ (0 : Int) := (by omega)
               have q1008 : 0 < (l0_1.length : Int) := of_decide_eq_true Z26_
               obtain ⟨ad1008, e1008, hx1008_0⟩ := Kd.ybs HR0_1.out 0 p1008 q1008
               have hw1008_0 := hx1008_0
               (try rw [show ((0 : Int)).toNat = 0 from rfl] at hw1008_0)
               (try rw [show 0 * 1 = 0 from rfl] at hw1008_0)
               (try rw [Addr.add_zero'] at hw1008_0)
               cases e1008
               have qi1008 : (0 < l0_1.length) = True := eq_true (by omega)
               (try rw [show ((0 : Int)).toNat = 0 from rfl] at hx1008_0)
               (try rw [Addr.add_zero'] at hx1008_0)
               replace hx1008_0 := (HB.out.cell (World.block_lt_of_cell? w _ hx1008_0)).trans hx1008_0
               replace p1008 := eq_true p1008
               replace q1008 := eq_true q1008
               refine yeq (n := 37) (S := fun w' => w'.cell? ⟨gb1001, 0, none⟩ = some (.slice (some ad1003) l0_0.length c0_0) ∧ w'.cell? ⟨gb1001, 1, none⟩ = some (.slice (some ad1008) l0_1.length c0_1) ∧ w'.cell? ad1003 = some (.int .u64 (rd l0_0 0)) ∧ w'.cell? ad1008 = some (.int .u64 (rd l0_1 0))) (ds := []) Q9_ (by kernel_rfl) rfl rfl ⟨(yaa BK1001.out 0).trans rfl, (yaa BK1001.out 1).trans rfl, ((HB.out.cell (World.block_lt_of_cell? w _ hw1003_0)).trans hw1003_0), ((HB.out.cell (World.block_lt_of_cell? w _ hw1008_0)).trans hw1008_0)⟩ (fun hHeld => ?_); refine yde ycq.tab2 ycq.bits2 (fun HT_ HW_ => ?_)
               generalize w33.drew = w34 at BK1001 HB hx1003_0 hx1008_0 hHeld ⊢
               refine pV 0 6 Q10_ (yae HT_.out (by kernel_rfl)) ?_
               refine pV 1 7 Q11_ (yae HT_.out (by kernel_rfl)) ?_
               refine pV 2 8 Q12_ (yae HT_.out (by kernel_rfl)) ?_
               refine pV 3 9 Q13_ (yae HT_.out (by kernel_rfl)) ?_
               refine pV 4 10 Q14_ (yae HT_.out (by kernel_rfl)) ?_
               refine pV 5 11 Q15_ (yae HT_.out (by kernel_rfl)) ?_
               refine pV 6 12 Q16_ (yae HT_.out (by kernel_rfl)) ?_
               refine pV 7 13 Q17_ (yae HT_.out (by kernel_rfl)) ?_
               refine pT4 8 14 Q18_ (ycd HT_.out HW_.out (by kernel_rfl)) hHeld ?_
               refine pV 9 15 Q19_ (yae HT_.out (by kernel_rfl)) ?_
               refine pT4 10 16 Q20_ (ycd HT_.out HW_.out (by kernel_rfl)) hHeld ?_
               refine pV 11 17 Q21_ (yae HT_.out (by kernel_rfl)) ?_
               refine pV 12 18 Q22_ (yae HT_.out (by kernel_rfl)) ?_
               refine pV 13 19 Q23_ (yae HT_.out (by kernel_rfl)) ?_
               refine pV 14 20 Q24_ (yae HT_.out (by kernel_rfl)) ?_
               refine pV 15 21 Q25_ (yae HT_.out (by kernel_rfl)) ?_
               refine pT4 16 22 Q26_ (ycd HT_.out HW_.out (by kernel_rfl)) hHeld ?_
               refine one_ (i := 17) (N := some 23) Q27_ rfl rfl (ydr HT_.out (by kernel_rfl)) (by decide) (fun K hK => ?_)
               refine yfa Try.func39 (by kernel_rfl) rfl #[.int .u64 3] (by rfl) rfl rfl Z6_ ?_
               with_reducible refine (yfi.calls k 3 t1004 _ A19.out).mono ?_
               rintro e w35 ⟨v1005, rfl, ho0, hb⟩
               refine ⟨_, rfl, ?_⟩
               have n0_ := Aside0.mk (Kd.ybl ho0 (yaj Z5_))
               have n1_ := Aside0.mk (ybq (g := gb1001) (o := .cells #[.slice (some ad1003) l0_0.length c0_0, .slice (some ad1008) l0_1.length c0_1] 47 (0, 0)) Z8_ hb)
               have n2_ := Aside0.mk (yai Z5_ hb)
               clear BK1001
               clear HB
               have HO1006 := n0_
               have BK1001 := n1_
               have HB := n2_
               clear n0_ n1_ n2_
               (try clear hb)
               (try clear hb2)
               (try clear hk)
               (try clear hi)
               (try clear ho0)
               obtain ⟨Ao36, co36, eo36⟩ := Kd.ybc HO1006.out
               (first | subst eo36 | (injection eo36 with f1_ f2_ f3_; have f4_ := f1_.symm; have f5_ := f3_.symm; clear f1_ f2_ f3_; subst f4_; subst f5_))
               refine hK.out _ _ ⟨(yaa BK1001.out 0).trans rfl, (yaa BK1001.out 1).trans rfl, ((HB.out.cell (World.block_lt_of_cell? w _ hw1003_0)).trans hw1003_0), ((HB.out.cell (World.block_lt_of_cell? w _ hw1008_0)).trans hw1008_0)⟩ (fun hHeld => ?_)
               clear hK K
               refine pN 23 ?_
               refine one_ (i := 18) (N := some 24) Q28_ rfl rfl (ydr HT_.out (by kernel_rfl)) (by decide) (fun K hK => ?_)
               refine yfa Try.func42 (by kernel_rfl) rfl #[.slice (some ad1008) l0_1.length c0_1, .slice Ao36 t1004.length co36] (by rfl) rfl rfl Z6_ ?_
               with_reducible refine (yco.calls k _ _ l0_1 _ _ t1004 t1007 _ ?side1 ?side2 ?side3 ?side4 A20.out).mono ?_
               (case side1 => repeat (first | exact (Kd.ybg HR0_1.out HB.out) | (with_reducible refine Kd.yau ?_ _) | (with_reducible refine Kd.yaw ?_ _) | (with_reducible refine Kd.ybe ?_)))
               (case side2 => exact HC0_1.out)
               (case side3 => repeat (first | exact (Kd.R_reads' HO1006.out).2.2 | (with_reducible refine Kd.yau ?_ _) | (with_reducible refine Kd.yaw ?_ _) | (with_reducible refine Kd.ybe ?_)))
               (case side4 => exact (Kd.R_reads' HO1006.out).2.1)
               rintro e w37 ⟨rfl, hb⟩
               refine ⟨_, rfl, ?_⟩
               have n0_ := Aside0.mk (Kd.ycc Z10_ hb)
               have n1_ := Aside0.mk (ybq (g := gb1001) (o := .cells #[.slice (some ad1003) l0_0.length c0_0, .slice (some ad1008) l0_1.length c0_1] 47 (0, 0)) Z8_ hb)
               have n2_ := Aside0.mk (yai Z5_ hb)
               clear HO1006
               clear BK1001
               clear HB
               have HO1006 := n0_
               have BK1001 := n1_
               have HB := n2_
               clear n0_ n1_ n2_
               (try clear hb)
               (try clear hb2)
               (try clear hk)
               (try clear hi)
               refine hK.out _ _ ⟨(yaa BK1001.out 0).trans rfl, (yaa BK1001.out 1).trans rfl, ((HB.out.cell (World.block_lt_of_cell? w _ hw1003_0)).trans hw1003_0), ((HB.out.cell (World.block_lt_of_cell? w _ hw1008_0)).trans hw1008_0)⟩ (fun hHeld => ?_)
               clear hK K
               refine pN 24 ?_
               refine pV 19 25 Q29_ (yae HT_.out (by kernel_rfl)) ?_
               refine pV 20 26 Q30_ (yae HT_.out (by kernel_rfl)) ?_
               refine pV 21 27 Q31_ (yae HT_.out (by kernel_rfl)) ?_
               refine pV 22 28 Q32_ (yae HT_.out (by kernel_rfl)) ?_
               refine pT4 23 29 Q33_ (ycd HT_.out HW_.out (by kernel_rfl)) hHeld ?_
               refine pV 24 30 Q34_ (yae HT_.out (by kernel_rfl)) ?_
               refine pT4 25 31 Q35_ (ycd HT_.out HW_.out (by kernel_rfl)) hHeld ?_
               refine pV 26 32 Q36_ (yae HT_.out (by kernel_rfl)) ?_
               refine pV 27 33 Q37_ (yae HT_.out (by kernel_rfl)) ?_
               refine pV 28 34 Q38_ (yae HT_.out (by kernel_rfl)) ?_
               refine pV 29 35 Q39_ (yae HT_.out (by kernel_rfl)) ?_
               refine pU 30 36 Q40_ (yae HT_.out (by kernel_rfl)) ?_
               refine pU 31 37 Q46_ (yae HT_.out (by kernel_rfl)) ?_
               refine pU 32 38 Q41_ (yae HT_.out (by kernel_rfl)) ?_
               refine pU 33 39 Q42_ (yae HT_.out (by kernel_rfl)) ?_
               refine pU 34 40 Q43_ (yae HT_.out (by kernel_rfl)) ?_
               refine pU 35 41 Q44_ (yae HT_.out (by kernel_rfl)) ?_
               refine pV 36 42 Q45_ (yae HT_.out (by kernel_rfl)) ?_
               refine yfk (ydx HT_.out (by kernel_rfl)) ?_
               try go_wp2
               go_ret
               exact ⟨by first | rfl | (simp [yap, yao] <;> rfl) | (simp [*, yap, yao] <;> rfl), by repeat (first | (with_reducible first | exact HB.out | apply yad | apply yab | apply yac | refine ybx ?_ GE1001.out) | exact HB.out)⟩
             · rw [if_neg c30] at H
               have c30b0 : ((Go.bits .and .u64 (rd l0_1 0) 1) == 0) = false := beq_eq_false_iff_ne.mpr c30
               have c30b1 : ((Go.bits .and .u64 (rd l0_1 0) 1) != 0) = true := bne_iff_ne.mpr c30
               replace H := Option.bind_eq_some_iff.mp H
               obtain ⟨t1009, A380, H⟩ := H
               replace H : (if t1009 ≥ 0 then (some 41) else (some 0)) = some r := H
               have A38 := Aside0.mk A380
               clear A380
               by_cases c39 : t1009 ≥ 0
               · rw [if_pos c39] at H
                 have c39b0 : decide (0 ≤ t1009) = true := decide_eq_true c39
                 clear c39
                 obtain rfl := Option.some.inj H
                 go_enter Try.func28, Try.ntmps28
                 try go_wp2_with (first | ((with_reducible refine ybu (N := 1) rfl ?_); refine ydl ?hg (N := 1) ?hd (cs := #[.slice A0_0 l0_0.length c0_0, .slice A0_1 l0_1.length c0_1]) (t := 47) ?hr ?_; (case hd => rfl); (case hg => rfl); (case hr => first | (go_simp; done) | (go_simp; rfl)); intro gb1001 hg w40 hbox hb; have n0_ := Aside0.mk (yai Z7_ hb); have n1_ := Aside0.mk (hbox); have n2_ := Aside0.mk ((by rw [hg]; exact (yaj Z7_) : w.heap.size ≤ gb1001)); have n3_ := Aside0.mk ((by rw [hg]; exact (yaj Z7_) : w.heap.size ≤ gb1001)); clear HB; have HB := n0_; have BK1001 := n1_; have GW1001 := n2_; have GE1001 := n3_; clear n0_ n1_ n2_ n3_; clear hb hbox hg; have hcz41_0 : w40.cell? ⟨gb1001, 0, none⟩ = some (.slice A0_0 l0_0.length c0_0) := (yaa BK1001.out 0).trans rfl; have hcz41_1 : w40.cell? ⟨gb1001, 1, none⟩ = some (.slice A0_1 l0_1.length c0_1) := (yaa BK1001.out 1).trans rfl; have hfz41_0 := ybo BK1001.out 0; have hfz41_1 := ybo BK1001.out 1) | ((with_reducible refine yar (f := 23) rfl ?_); refine yce (some 5) rfl rfl Try.func23 (by kernel_rfl) rfl #[.agg #[.slice A0_0 l0_0.length c0_0, .slice A0_1 l0_1.length c0_1]] rfl Z6_ ?_; (with_reducible refine (ydu.calls k _ _ l0_0 _ _ l0_1 t1002 _ ?side1 ?side2 ?side3 ?side4 A2.out).mono ?_); (case side1 => repeat (first | exact (Kd.ybg HR0_0.out HB.out) | (with_reducible refine Kd.yau ?_ _) | (with_reducible refine Kd.yaw ?_ _) | (with_reducible refine Kd.ybe ?_))); (case side2 => exact HC0_0.out); (case side3 => repeat (first | exact (Kd.ybg HR0_1.out HB.out) | (with_reducible refine Kd.yau ?_ _) | (with_reducible refine Kd.yaw ?_ _) | (with_reducible refine Kd.ybe ?_))); (case side4 => exact HC0_1.out); rintro e w42 ⟨rfl, hb⟩; refine ⟨_, rfl, ?_⟩; have n0_ := Aside0.mk (ybq (g := gb1001) (o := .cells #[.slice A0_0 l0_0.length c0_0, .slice A0_1 l0_1.length c0_1] 47 (0, 0)) Z8_ hb); have n1_ := Aside0.mk (yai Z5_ hb); clear BK1001; clear HB; have BK1001 := n0_; have HB := n1_; clear n0_ n1_; (try clear hb); (try clear hb2); (try clear hk); (try clear hi)))
                 have n0_ := Aside0.mk (yeg BK1001.out)
                 have n1_ := Aside0.mk (yac HB.out)
                 clear BK1001
                 clear HB
                 have BK1001 := n0_
                 have HB := n1_
                 clear n0_ n1_
                 have p1003 : 0 ≤ (0 : Int) := (by omega)
                 have q1003 : 0 < (l0_0.length : Int) := of_decide_eq_true Z26_
                 obtain ⟨ad1003, e1003, hx1003_0⟩ := Kd.ybs HR0_0.out 0 p1003 q1003
                 have hw1003_0 := hx1003_0
                 (try rw [show ((0 : Int)).toNat = 0 from rfl] at hw1003_0)
                 (try rw [show 0 * 1 = 0 from rfl] at hw1003_0)
                 (try rw [Addr.add_zero'] at hw1003_0)
                 cases e1003
                 have qi1003 : (0 < l0_0.length) = True := eq_true (by omega)
                 (try rw [show ((0 : Int)).toNat = 0 from rfl] at hx1003_0)
                 (try rw [Addr.add_zero'] at hx1003_0)
                 replace hx1003_0 := (HB.out.cell (World.block_lt_of_cell? w _ hx1003_0)).trans hx1003_0
                 replace p1003 := eq_true p1003
                 replace q1003 := eq_true q1003
                 have p1008 : 0 ≤ (0 : Int) := (by omega)
                 have q1008 : 0 < (l0_1.length : Int) := of_decide_eq_true Z26_
                 obtain ⟨ad1008, e1008, hx1008_0⟩ := Kd.ybs HR0_1.out 0 p1008 q1008
                 have hw1008_0 := hx1008_0
                 (try rw [show ((0 : Int)).toNat = 0 from rfl] at hw1008_0)
                 (try rw [show 0 * 1 = 0 from rfl] at hw1008_0)
                 (try rw [Addr.add_zero'] at hw1008_0)
                 cases e1008
                 have qi1008 : (0 < l0_1.length) = True := eq_true (by omega)
                 (try rw [show ((0 : Int)).toNat = 0 from rfl] at hx1008_0)
                 (try rw [Addr.add_zero'] at hx1008_0)
                 replace hx1008_0 := (HB.out.cell (World.block_lt_of_cell? w _ hx1008_0)).trans hx1008_0
                 replace p1008 := eq_true p1008
                 replace q1008 := eq_true q1008
                 refine yeq (n := 37) (S := fun w' => w'.cell? ⟨gb1001, 0, none⟩ = some (.slice (some ad1003) l0_0.length c0_0) ∧ w'.cell? ⟨gb1001, 1, none⟩ = some (.slice (some ad1008) l0_1.length c0_1) ∧ w'.cell? ad1003 = some (.int .u64 (rd l0_0 0)) ∧ w'.cell? ad1008 = some (.int .u64 (rd l0_1 0))) (ds := []) Q9_ (by kernel_rfl) rfl rfl ⟨(yaa BK1001.out 0).trans rfl, (yaa BK1001.out 1).trans rfl, ((HB.out.cell (World.block_lt_of_cell? w _ hw1003_0)).trans hw1003_0), ((HB.out.cell (World.block_lt_of_cell? w _ hw1008_0)).trans hw1008_0)⟩ (fun hHeld => ?_); refine yde ycq.tab2 ycq.bits2 (fun HT_ HW_ => ?_)
                 generalize w42.drew = w43 at BK1001 HB hx1003_0 hx1008_0 hHeld ⊢
                 refine pV 0 6 Q10_ (yae HT_.out (by kernel_rfl)) ?_
                 refine pV 1 7 Q11_ (yae HT_.out (by kernel_rfl)) ?_
                 refine pV 2 8 Q12_ (yae HT_.out (by kernel_rfl)) ?_
                 refine pV 3 9 Q13_ (yae HT_.out (by kernel_rfl)) ?_
                 refine pV 4 10 Q14_ (yae HT_.out (by kernel_rfl)) ?_
                 refine pV 5 11 Q15_ (yae HT_.out (by kernel_rfl)) ?_
                 refine pV 6 12 Q16_ (yae HT_.out (by kernel_rfl)) ?_
                 refine pV 7 13 Q17_ (yae HT_.out (by kernel_rfl)) ?_
                 refine pT4 8 14 Q18_ (ycd HT_.out HW_.out (by kernel_rfl)) hHeld ?_
                 refine pV 9 15 Q19_ (yae HT_.out (by kernel_rfl)) ?_
                 refine pT4 10 16 Q20_ (ycd HT_.out HW_.out (by kernel_rfl)) hHeld ?_
                 refine pV 11 17 Q21_ (yae HT_.out (by kernel_rfl)) ?_
                 refine pV 12 18 Q22_ (yae HT_.out (by kernel_rfl)) ?_
                 refine pV 13 19 Q23_ (yae HT_.out (by kernel_rfl)) ?_
                 refine pV 14 20 Q24_ (yae HT_.out (by kernel_rfl)) ?_
                 refine pV 15 21 Q25_ (yae HT_.out (by kernel_rfl)) ?_
                 refine pT4 16 22 Q26_ (ycd HT_.out HW_.out (by kernel_rfl)) hHeld ?_
                 refine one_ (i := 17) (N := some 23) Q27_ rfl rfl (ydr HT_.out (by kernel_rfl)) (by decide) (fun K hK => ?_)
                 refine yfa Try.func39 (by kernel_rfl) rfl #[.int .u64 3] (by rfl) rfl rfl Z6_ ?_
                 with_reducible refine (yfi.calls k 3 t1004 _ A19.out).mono ?_
                 rintro e w44 ⟨v1005, rfl, ho0, hb⟩
                 refine ⟨_, rfl, ?_⟩
                 have n0_ := Aside0.mk (Kd.ybl ho0 (yaj Z5_))
                 have n1_ := Aside0.mk (ybq (g := gb1001) (o := .cells #[.slice (some ad1003) l0_0.length c0_0, .slice (some ad1008) l0_1.length c0_1] 47 (0, 0)) Z8_ hb)
                 have n2_ := Aside0.mk (yai Z5_ hb)
                 clear BK1001
                 clear HB
                 have HO1006 := n0_
                 have BK1001 := n1_
                 have HB := n2_
                 clear n0_ n1_ n2_
                 (try clear hb)
                 (try clear hb2)
                 (try clear hk)
                 (try clear hi)
                 (try clear ho0)
                 obtain ⟨Ao45, co45, eo45⟩ := Kd.ybc HO1006.out
                 (first | subst eo45 | (injection eo45 with f1_ f2_ f3_; have f4_ := f1_.symm; have f5_ := f3_.symm; clear f1_ f2_ f3_; subst f4_; subst f5_))
                 refine hK.out _ _ ⟨(yaa BK1001.out 0).trans rfl, (yaa BK1001.out 1).trans rfl, ((HB.out.cell (World.block_lt_of_cell? w _ hw1003_0)).trans hw1003_0), ((HB.out.cell (World.block_lt_of_cell? w _ hw1008_0)).trans hw1008_0)⟩ (fun hHeld => ?_)
                 clear hK K
                 refine pN 23 ?_
                 refine one_ (i := 18) (N := some 24) Q28_ rfl rfl (ydr HT_.out (by kernel_rfl)) (by decide) (fun K hK => ?_)
                 refine yfa Try.func42 (by kernel_rfl) rfl #[.slice (some ad1008) l0_1.length c0_1, .slice Ao45 t1004.length co45] (by rfl) rfl rfl Z6_ ?_
                 with_reducible refine (yco.calls k _ _ l0_1 _ _ t1004 t1007 _ ?side1 ?side2 ?side3 ?side4 A20.out).mono ?_
                 (case side1 => repeat (first | exact (Kd.ybg HR0_1.out HB.out) | (with_reducible refine Kd.yau ?_ _) | (with_reducible refine Kd.yaw ?_ _) | (with_reducible refine Kd.ybe ?_)))
                 (case side2 => exact HC0_1.out)
                 (case side3 => repeat (first | exact (Kd.R_reads' HO1006.out).2.2 | (with_reducible refine Kd.yau ?_ _) | (with_reducible refine Kd.yaw ?_ _) | (with_reducible refine Kd.ybe ?_)))
                 (case side4 => exact (Kd.R_reads' HO1006.out).2.1)
                 rintro e w46 ⟨rfl, hb⟩
                 refine ⟨_, rfl, ?_⟩
                 have n0_ := Aside0.mk (Kd.ycc Z10_ hb)
                 have n1_ := Aside0.mk (ybq (g := gb1001) (o := .cells #[.slice (some ad1003) l0_0.length c0_0, .slice (some ad1008) l0_1.length c0_1] 47 (0, 0)) Z8_ hb)
                 have n2_ := Aside0.mk (yai Z5_ hb)
                 clear HO1006
                 clear BK1001
                 clear HB
                 have HO1006 := n0_
                 have BK1001 := n1_
                 have HB := n2_
                 clear n0_ n1_ n2_
                 (try clear hb)
                 (try clear hb2)
                 (try clear hk)
                 (try clear hi)
                 refine hK.out _ _ ⟨(yaa BK1001.out 0).trans rfl, (yaa BK1001.out 1).trans rfl, ((HB.out.cell (World.block_lt_of_cell? w _ hw1003_0)).trans hw1003_0), ((HB.out.cell (World.block_lt_of_cell? w _ hw1008_0)).trans hw1008_0)⟩ (fun hHeld => ?_)
                 clear hK K
                 refine pN 24 ?_
                 refine pV 19 25 Q29_ (yae HT_.out (by kernel_rfl)) ?_
                 refine pV 20 26 Q30_ (yae HT_.out (by kernel_rfl)) ?_
                 refine pV 21 27 Q31_ (yae HT_.out (by kernel_rfl)) ?_
                 refine pV 22 28 Q32_ (yae HT_.out (by kernel_rfl)) ?_
                 refine pT4 23 29 Q33_ (ycd HT_.out HW_.out (by kernel_rfl)) hHeld ?_
                 refine pV 24 30 Q34_ (yae HT_.out (by kernel_rfl)) ?_
                 refine pT4 25 31 Q35_ (ycd HT_.out HW_.out (by kernel_rfl)) hHeld ?_
                 refine pV 26 32 Q36_ (yae HT_.out (by kernel_rfl)) ?_
                 refine pV 27 33 Q37_ (yae HT_.out (by kernel_rfl)) ?_
                 refine pV 28 34 Q38_ (yae HT_.out (by kernel_rfl)) ?_
                 refine pV 29 35 Q39_ (yae HT_.out (by kernel_rfl)) ?_
                 refine pV 30 36 Q40_ (yae HT_.out (by kernel_rfl)) ?_
                 refine pV 32 38 Q65_ (yae HT_.out (by kernel_rfl)) ?_
                 refine pT4 31 37 Q41_ (ycd HT_.out HW_.out (by kernel_rfl)) hHeld ?_
                 refine pT4 33 39 Q42_ (ycd HT_.out HW_.out (by kernel_rfl)) hHeld ?_
                 refine one_ (i := 34) (N := some 40) Q43_ rfl rfl (ydr HT_.out (by kernel_rfl)) (by decide) (fun K hK => ?_)
                 refine yfa Try.func42 (by kernel_rfl) rfl #[.slice (some ad1008) l0_1.length c0_1, .slice (some ad1003) l0_0.length c0_0] (by rfl) rfl rfl Z6_ ?_
                 with_reducible refine (yco.calls k _ _ l0_1 _ _ l0_0 t1009 _ ?side1 ?side2 ?side3 ?side4 A38.out).mono ?_
                 (case side1 => repeat (first | exact (Kd.ybg HR0_1.out HB.out) | (with_reducible refine Kd.yau ?_ _) | (with_reducible refine Kd.yaw ?_ _) | (with_reducible refine Kd.ybe ?_)))
                 (case side2 => exact HC0_1.out)
                 (case side3 => repeat (first | exact (Kd.ybg HR0_0.out HB.out) | (with_reducible refine Kd.yau ?_ _) | (with_reducible refine Kd.yaw ?_ _) | (with_reducible refine Kd.ybe ?_)))
                 (case side4 => exact HC0_0.out)
                 rintro e w47 ⟨rfl, hb⟩
                 refine ⟨_, rfl, ?_⟩
                 have n0_ := Aside0.mk (Kd.ycc Z10_ hb)
                 have n1_ := Aside0.mk (ybq (g := gb1001) (o := .cells #[.slice (some ad1003) l0_0.length c0_0, .slice (some ad1008) l0_1.length c0_1] 47 (0, 0)) Z8_ hb)
                 have n2_ := Aside0.mk (yai Z5_ hb)
                 clear HO1006
                 clear BK1001
                 clear HB
                 have HO1006 := n0_
                 have BK1001 := n1_
                 have HB := n2_
                 clear n0_ n1_ n2_
                 (try clear hb)
                 (try clear hb2)
                 (try clear hk)
                 (try clear hi)
                 refine hK.out _ _ ⟨(yaa BK1001.out 0).trans rfl, (yaa BK1001.out 1).trans rfl, ((HB.out.cell (World.block_lt_of_cell? w _ hw1003_0)).trans hw1003_0), ((HB.out.cell (World.block_lt_of_cell? w _ hw1008_0)).trans hw1008_0)⟩ (fun hHeld => ?_)
                 clear hK K
                 refine pN 40 ?_
                 refine pV 35 41 Q44_ (yae HT_.out (by kernel_rfl)) ?_
                 refine pV 36 42 Q45_ (yae HT_.out (by kernel_rfl)) ?_
                 refine yfk (ydx HT_.out (by kernel_rfl)) ?_
                 try go_wp2
                 go_ret
                 exact ⟨by first | rfl | (simp [yap, yao] <;> rfl) | (simp [*, yap, yao] <;> rfl), by repeat (first | (with_reducible first | exact HB.out | apply yad | apply yab | apply yac | refine ybx ?_ GE1001.out) | exact HB.out)⟩
               · rw [if_neg c39] at H
                 have c39b0 : decide (0 ≤ t1009) = false := decide_eq_false c39
                 clear c39
                 obtain rfl := Option.some.inj H
                 go_enter Try.func28, Try.ntmps28
                 try go_wp2_with (first | ((with_reducible refine ybu (N := 1) rfl ?_); refine ydl ?hg (N := 1) ?hd (cs := #[.slice A0_0 l0_0.length c0_0, .slice A0_1 l0_1.length c0_1]) (t := 47) ?hr ?_; (case hd => rfl); (case hg => rfl); (case hr => first | (go_simp; done) | (go_simp; rfl)); intro gb1001 hg w48 hbox hb; have n0_ := Aside0.mk (yai Z7_ hb); have n1_ := Aside0.mk (hbox); have n2_ := Aside0.mk ((by rw [hg]; exact (yaj Z7_) : w.heap.size ≤ gb1001)); have n3_ := Aside0.mk ((by rw [hg]; exact (yaj Z7_) : w.heap.size ≤ gb1001)); clear HB; have HB := n0_; have BK1001 := n1_; have GW1001 := n2_; have GE1001 := n3_; clear n0_ n1_ n2_ n3_; clear hb hbox hg; have hcz49_0 : w48.cell? ⟨gb1001, 0, none⟩ = some (.slice A0_0 l0_0.length c0_0) := (yaa BK1001.out 0).trans rfl; have hcz49_1 : w48.cell? ⟨gb1001, 1, none⟩ = some (.slice A0_1 l0_1.length c0_1) := (yaa BK1001.out 1).trans rfl; have hfz49_0 := ybo BK1001.out 0; have hfz49_1 := ybo BK1001.out 1) | ((with_reducible refine yar (f := 23) rfl ?_); refine yce (some 5) rfl rfl Try.func23 (by kernel_rfl) rfl #[.agg #[.slice A0_0 l0_0.length c0_0, .slice A0_1 l0_1.length c0_1]] rfl Z6_ ?_; (with_reducible refine (ydu.calls k _ _ l0_0 _ _ l0_1 t1002 _ ?side1 ?side2 ?side3 ?side4 A2.out).mono ?_); (case side1 => repeat (first | exact (Kd.ybg HR0_0.out HB.out) | (with_reducible refine Kd.yau ?_ _) | (with_reducible refine Kd.yaw ?_ _) | (with_reducible refine Kd.ybe ?_))); (case side2 => exact HC0_0.out); (case side3 => repeat (first | exact (Kd.ybg HR0_1.out HB.out) | (with_reducible refine Kd.yau ?_ _) | (with_reducible refine Kd.yaw ?_ _) | (with_reducible refine Kd.ybe ?_))); (case side4 => exact HC0_1.out); rintro e w50 ⟨rfl, hb⟩; refine ⟨_, rfl, ?_⟩; have n0_ := Aside0.mk (ybq (g := gb1001) (o := .cells #[.slice A0_0 l0_0.length c0_0, .slice A0_1 l0_1.length c0_1] 47 (0, 0)) Z8_ hb); have n1_ := Aside0.mk (yai Z5_ hb); clear BK1001; clear HB; have BK1001 := n0_; have HB := n1_; clear n0_ n1_; (try clear hb); (try clear hb2); (try clear hk); (try clear hi)))
                 have n0_ := Aside0.mk (yeg BK1001.out)
                 have n1_ := Aside0.mk (yac HB.out)
                 clear BK1001
                 clear HB
                 have BK1001 := n0_
                 have HB := n1_
                 clear n0_ n1_
                 have p1003 : 0 ≤ (0 : Int) := (by omega)
                 have q1003 : 0 < (l0_0.length : Int) := of_decide_eq_true Z26_
                 obtain ⟨ad1003, e1003, hx1003_0⟩ := Kd.ybs HR0_0.out 0 p1003 q1003
                 have hw1003_0 := hx1003_0
                 (try rw [show ((0 : Int)).toNat = 0 from rfl] at hw1003_0)
                 (try rw [show 0 * 1 = 0 from rfl] at hw1003_0)
                 (try rw [Addr.add_zero'] at hw1003_0)
                 cases e1003
                 have qi1003 : (0 < l0_0.length) = True := eq_true (by omega)
                 (try rw [show ((0 : Int)).toNat = 0 from rfl] at hx1003_0)
                 (try rw [Addr.add_zero'] at hx1003_0)
                 replace hx1003_0 := (HB.out.cell (World.block_lt_of_cell? w _ hx1003_0)).trans hx1003_0
                 replace p1003 := eq_true p1003
                 replace q1003 := eq_true q1003
                 have p1008 : 0 ≤ (0 : Int) := (by omega)
                 have q1008 : 0 < (l0_1.length : Int) := of_decide_eq_true Z26_
                 obtain ⟨ad1008, e1008, hx1008_0⟩ := Kd.ybs HR0_1.out 0 p1008 q1008
                 have hw1008_0 := hx1008_0
                 (try rw [show ((0 : Int)).toNat = 0 from rfl] at hw1008_0)
                 (try rw [show 0 * 1 = 0 from rfl] at hw1008_0)
                 (try rw [Addr.add_zero'] at hw1008_0)
                 cases e1008
                 have qi1008 : (0 < l0_1.length) = True := eq_true (by omega)
                 (try rw [show ((0 : Int)).toNat = 0 from rfl] at hx1008_0)
                 (try rw [Addr.add_zero'] at hx1008_0)
                 replace hx1008_0 := (HB.out.cell (World.block_lt_of_cell? w _ hx1008_0)).trans hx1008_0
                 replace p1008 := eq_true p1008
                 replace q1008 := eq_true q1008
                 refine yeq (n := 37) (S := fun w' => w'.cell? ⟨gb1001, 0, none⟩ = some (.slice (some ad1003) l0_0.length c0_0) ∧ w'.cell? ⟨gb1001, 1, none⟩ = some (.slice (some ad1008) l0_1.length c0_1) ∧ w'.cell? ad1003 = some (.int .u64 (rd l0_0 0)) ∧ w'.cell? ad1008 = some (.int .u64 (rd l0_1 0))) (ds := []) Q9_ (by kernel_rfl) rfl rfl ⟨(yaa BK1001.out 0).trans rfl, (yaa BK1001.out 1).trans rfl, ((HB.out.cell (World.block_lt_of_cell? w _ hw1003_0)).trans hw1003_0), ((HB.out.cell (World.block_lt_of_cell? w _ hw1008_0)).trans hw1008_0)⟩ (fun hHeld => ?_); refine yde ycq.tab2 ycq.bits2 (fun HT_ HW_ => ?_)
                 generalize w50.drew = w51 at BK1001 HB hx1003_0 hx1008_0 hHeld ⊢
                 refine pV 0 6 Q10_ (yae HT_.out (by kernel_rfl)) ?_
                 refine pV 1 7 Q11_ (yae HT_.out (by kernel_rfl)) ?_
                 refine pV 2 8 Q12_ (yae HT_.out (by kernel_rfl)) ?_
                 refine pV 3 9 Q13_ (yae HT_.out (by kernel_rfl)) ?_
                 refine pV 4 10 Q14_ (yae HT_.out (by kernel_rfl)) ?_
                 refine pV 5 11 Q15_ (yae HT_.out (by kernel_rfl)) ?_
                 refine pV 6 12 Q16_ (yae HT_.out (by kernel_rfl)) ?_
                 refine pV 7 13 Q17_ (yae HT_.out (by kernel_rfl)) ?_
                 refine pT4 8 14 Q18_ (ycd HT_.out HW_.out (by kernel_rfl)) hHeld ?_
                 refine pV 9 15 Q19_ (yae HT_.out (by kernel_rfl)) ?_
                 refine pT4 10 16 Q20_ (ycd HT_.out HW_.out (by kernel_rfl)) hHeld ?_
                 refine pV 11 17 Q21_ (yae HT_.out (by kernel_rfl)) ?_
                 refine pV 12 18 Q22_ (yae HT_.out (by kernel_rfl)) ?_
                 refine pV 13 19 Q23_ (yae HT_.out (by kernel_rfl)) ?_
                 refine pV 14 20 Q24_ (yae HT_.out (by kernel_rfl)) ?_
                 refine pV 15 21 Q25_ (yae HT_.out (by kernel_rfl)) ?_
                 refine pT4 16 22 Q26_ (ycd HT_.out HW_.out (by kernel_rfl)) hHeld ?_
                 refine one_ (i := 17) (N := some 23) Q27_ rfl rfl (ydr HT_.out (by kernel_rfl)) (by decide) (fun K hK => ?_)
                 refine yfa Try.func39 (by kernel_rfl) rfl #[.int .u64 3] (by rfl) rfl rfl Z6_ ?_
                 with_reducible refine (yfi.calls k 3 t1004 _ A19.out).mono ?_
                 rintro e w52 ⟨v1005, rfl, ho0, hb⟩
                 refine ⟨_, rfl, ?_⟩
                 have n0_ := Aside0.mk (Kd.ybl ho0 (yaj Z5_))
                 have n1_ := Aside0.mk (ybq (g := gb1001) (o := .cells #[.slice (some ad1003) l0_0.length c0_0, .slice (some ad1008) l0_1.length c0_1] 47 (0, 0)) Z8_ hb)
                 have n2_ := Aside0.mk (yai Z5_ hb)
                 clear BK1001
                 clear HB
                 have HO1006 := n0_
                 have BK1001 := n1_
                 have HB := n2_
                 clear n0_ n1_ n2_
                 (try clear hb)
                 (try clear hb2)
                 (try clear hk)
                 (try clear hi)
                 (try clear ho0)
                 obtain ⟨Ao53, co53, eo53⟩ := Kd.ybc HO1006.out
                 (first | subst eo53 | (injection eo53 with f1_ f2_ f3_; have f4_ := f1_.symm; have f5_ := f3_.symm; clear f1_ f2_ f3_; subst f4_; subst f5_))
                 refine hK.out _ _ ⟨(yaa BK1001.out 0).trans rfl, (yaa BK1001.out 1).trans rfl, ((HB.out.cell (World.block_lt_of_cell? w _ hw1003_0)).trans hw1003_0), ((HB.out.cell (World.block_lt_of_cell? w _ hw1008_0)).trans hw1008_0)⟩ (fun hHeld => ?_)
                 clear hK K
                 refine pN 23 ?_
                 refine one_ (i := 18) (N := some 24) Q28_ rfl rfl (ydr HT_.out (by kernel_rfl)) (by decide) (fun K hK => ?_)
                 refine yfa Try.func42 (by kernel_rfl) rfl #[.slice (some ad1008) l0_1.length c0_1, .slice Ao53 t1004.length co53] (by rfl) rfl rfl Z6_ ?_
                 with_reducible refine (yco.calls k _ _ l0_1 _ _ t1004 t1007 _ ?side1 ?side2 ?side3 ?side4 A20.out).mono ?_
                 (case side1 => repeat (first | exact (Kd.ybg HR0_1.out HB.out) | (with_reducible refine Kd.yau ?_ _) | (with_reducible refine Kd.yaw ?_ _) | (with_reducible refine Kd.ybe ?_)))
                 (case side2 => exact HC0_1.out)
                 (case side3 => repeat (first | exact (Kd.R_reads' HO1006.out).2.2 | (with_reducible refine Kd.yau ?_ _) | (with_reducible refine Kd.yaw ?_ _) | (with_reducible refine Kd.ybe ?_)))
                 (case side4 => exact (Kd.R_reads' HO1006.out).2.1)
                 rintro e w54 ⟨rfl, hb⟩
                 refine ⟨_, rfl, ?_⟩
                 have n0_ := Aside0.mk (Kd.ycc Z10_ hb)
                 have n1_ := Aside0.mk (ybq (g := gb1001) (o := .cells #[.slice (some ad1003) l0_0.length c0_0, .slice (some ad1008) l0_1.length c0_1] 47 (0, 0)) Z8_ hb)
                 have n2_ := Aside0.mk (yai Z5_ hb)
                 clear HO1006
                 clear BK1001
                 clear HB
                 have HO1006 := n0_
                 have BK1001 := n1_
                 have HB := n2_
                 clear n0_ n1_ n2_
                 (try clear hb)
                 (try clear hb2)
                 (try clear hk)
                 (try clear hi)
                 refine hK.out _ _ ⟨(yaa BK1001.out 0).trans rfl, (yaa BK1001.out 1).trans rfl, ((HB.out.cell (World.block_lt_of_cell? w _ hw1003_0)).trans hw1003_0), ((HB.out.cell (World.block_lt_of_cell? w _ hw1008_0)).trans hw1008_0)⟩ (fun hHeld => ?_)
                 clear hK K
                 refine pN 24 ?_
                 refine pV 19 25 Q29_ (yae HT_.out (by kernel_rfl)) ?_
                 refine pV 20 26 Q30_ (yae HT_.out (by kernel_rfl)) ?_
                 refine pV 21 27 Q31_ (yae HT_.out (by kernel_rfl)) ?_
                 refine pV 22 28 Q32_ (yae HT_.out (by kernel_rfl)) ?_
                 refine pT4 23 29 Q33_ (ycd HT_.out HW_.out (by kernel_rfl)) hHeld ?_
                 refine pV 24 30 Q34_ (yae HT_.out (by kernel_rfl)) ?_
                 refine pT4 25 31 Q35_ (ycd HT_.out HW_.out (by kernel_rfl)) hHeld ?_
                 refine pV 26 32 Q36_ (yae HT_.out (by kernel_rfl)) ?_
                 refine pV 27 33 Q37_ (yae HT_.out (by kernel_rfl)) ?_
                 refine pV 28 34 Q38_ (yae HT_.out (by kernel_rfl)) ?_
                 refine pV 29 35 Q39_ (yae HT_.out (by kernel_rfl)) ?_
                 refine pV 30 36 Q40_ (yae HT_.out (by kernel_rfl)) ?_
                 refine pV 32 38 Q65_ (yae HT_.out (by kernel_rfl)) ?_
                 refine pT4 31 37 Q41_ (ycd HT_.out HW_.out (by kernel_rfl)) hHeld ?_
                 refine pT4 33 39 Q42_ (ycd HT_.out HW_.out (by kernel_rfl)) hHeld ?_
                 refine one_ (i := 34) (N := some 40) Q43_ rfl rfl (ydr HT_.out (by kernel_rfl)) (by decide) (fun K hK => ?_)
                 refine yfa Try.func42 (by kernel_rfl) rfl #[.slice (some ad1008) l0_1.length c0_1, .slice (some ad1003) l0_0.length c0_0] (by rfl) rfl rfl Z6_ ?_
                 with_reducible refine (yco.calls k _ _ l0_1 _ _ l0_0 t1009 _ ?side1 ?side2 ?side3 ?side4 A38.out).mono ?_
                 (case side1 => repeat (first | exact (Kd.ybg HR0_1.out HB.out) | (with_reducible refine Kd.yau ?_ _) | (with_reducible refine Kd.yaw ?_ _) | (with_reducible refine Kd.ybe ?_)))
                 (case side2 => exact HC0_1.out)
                 (case side3 => repeat (first | exact (Kd.ybg HR0_0.out HB.out) | (with_reducible refine Kd.yau ?_ _) | (with_reducible refine Kd.yaw ?_ _) | (with_reducible refine Kd.ybe ?_)))
                 (case side4 => exact HC0_0.out)
                 rintro e w55 ⟨rfl, hb⟩
                 refine ⟨_, rfl, ?_⟩
                 have n0_ := Aside0.mk (Kd.ycc Z10_ hb)
                 have n1_ := Aside0.mk (ybq (g := gb1001) (o := .cells #[.slice (some ad1003) l0_0.length c0_0, .slice (some ad1008) l0_1.length c0_1] 47 (0, 0)) Z8_ hb)
                 have n2_ := Aside0.mk (yai Z5_ hb)
                 clear HO1006
                 clear BK1001
                 clear HB
                 have HO1006 := n0_
                 have BK1001 := n1_
                 have HB := n2_
                 clear n0_ n1_ n2_
                 (try clear hb)
                 (try clear hb2)
                 (try clear hk)
                 (try clear hi)
                 refine hK.out _ _ ⟨(yaa BK1001.out 0).trans rfl, (yaa BK1001.out 1).trans rfl, ((HB.out.cell (World.block_lt_of_cell? w _ hw1003_0)).trans hw1003_0), ((HB.out.cell (World.block_lt_of_cell? w _ hw1008_0)).trans hw1008_0)⟩ (fun hHeld => ?_)
                 clear hK K
                 refine pN 40 ?_
                 refine pV 35 41 Q44_ (yae HT_.out (by kernel_rfl)) ?_
                 refine pV 36 42 Q45_ (yae HT_.out (by kernel_rfl)) ?_
                 refine yfk (ydx HT_.out (by kernel_rfl)) ?_
                 try go_wp2
                 go_ret
                 exact ⟨by first | rfl | (simp [yap, yao] <;> rfl) | (simp [*, yap, yao] <;> rfl), by repeat (first | (with_reducible first | exact HB.out | apply yad | apply yab | apply yac | refine ybx ?_ GE1001.out) | exact HB.out)⟩
           · rw [if_neg c29] at H
             exact absurd H (by simp)
     · rw [if_neg c13] at H
       exact absurd H (by simp)
end Go.Proofs.Ytgnaaaliadiekaa.B
end
