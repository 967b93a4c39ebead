/- A part of the proof (merged by pack.py, a program of this session: what the row's proof names). -/
import Derived.Test.YtgnaaaliadiekaaM4
import Derived.Test.YtgnaaaliadiekaaM13
import Derived.Test.YtgnaaaliadiekaaM14
import Derived.Test.YtgnaaaliadiekaaM18
import Derived.Test.YtgnaaaliadiekaaM23
import Derived.Test.YtgnaaaliadiekaaM0
section
namespace Go.Proofs.Ytgnaaaliadiekaa.B
open Go.RowKit Go.Proofs.YtgnaaaliadiekaaW.PrintWords Go.Proofs.YtgnaaaliadiekaaW.PrintLast Go.Proofs.YtgnaaaliadiekaaW.PrintMore
attribute [local go_sem] ycj ych ycs ycr ybw ybv yci ycg   -- for this text's walks alone
attribute [local go_sem] yca ybn ybz ybm
set_option linter.unusedVariables false
set_option linter.unusedSimpArgs false
def ybf.f (k : Nat) (l0_0 : List Int) (l0_1 : List Int) : Option (Bool) := (yah.f k l0_0).bind fun t1002 => ((yah.f k l0_1).bind fun t1005 => ((ybd.f k l0_0 l0_1).bind fun t1008 => (if t1008 ≥ 62 then ((ybd.f k l0_0 l0_1).bind fun t1009 => (if t1009 ≤ 256 then (if (t1005.length : Int) > 0 then (if 0 < (t1002.length : Int) then (if (Int.tmod (rd t1002 0) 2) = 1 then ((yat.f k 3).bind fun t1011 => ((yas.f k t1005 t1011).bind fun t1014 => (if t1014 ≥ 0 then (if 0 < (t1005.length : Int) then (if (Int.tmod (rd t1005 0) 2) = 1 then ((yas.f k t1005 t1002).bind fun t1016 => (some (decide (t1016 < 0)))) else (some false)) else (none)) else (some false)))) else (some false)) else (none)) else (some false)) else (some false))) else (some false))))
def ybf.T1 : Bool × List (List Nat × List Nat) := (true, [([], []), ([0], [0]), ([1], [1]), ([], []), ([3], [3]), ([4, 2], [4]), ([2, 5, 0, 1, 2], [2]), ([5, 6, 0, 1, 2, 3, 4, 5, 6], [5])])
def ybf.B1 : List Nat := [0, 1, 3, 0, 8, 31, 63, 127]
theorem ybf.tab1 : rtab .any (opsOf Try.f27 1) = ybf.T1 := by kernel_rfl
theorem ybf.bits1 : yfg ybf.T1.2 ybf.B1 = true := by kernel_rfl
set_option maxHeartbeats 8000000 in
set_option maxRecDepth 100000 in
theorem ybf.calls (k : Nat) (A0_0 : Option Addr) (c0_0 : Nat) (l0_0 : List Int) (A0_1 : Option Addr) (c0_1 : Nat) (l0_1 : List Int) (r : Bool) (w : World) (hr0_0 : Kd.C (Kd.int .u64) w A0_0 l0_0.length l0_0) (hc0_0 : l0_0.length ≤ c0_0) (hr0_1 : Kd.C (Kd.int .u64) w A0_1 l0_1.length l0_1) (hc0_1 : l0_1.length ≤ c0_1) (h : ybf.f k l0_0 l0_1 = some r) :
 Calls Try.prog 27 #[.agg #[.slice A0_0 l0_0.length c0_0, .slice A0_1 l0_1.length c0_1]] w fun e w' => e = .returned (.bool r) ∧ Below w.heap.size w w' := by
 have hu47 := Try.underlying47
 have HR0_0 := Aside0.mk hr0_0
 have HC0_0 := Aside0.mk hc0_0
 clear hr0_0 hc0_0
 have HR0_1 := Aside0.mk hr0_1
 have HC0_1 := Aside0.mk hc0_1
 clear hr0_1 hc0_1
 have HB := Aside0.mk (Below.refl w.heap.size w)
 have H : ((yah.f k l0_0).bind fun t1002 => ((yah.f k l0_1).bind fun t1005 => ((ybd.f k l0_0 l0_1).bind fun t1008 => (if t1008 ≥ 62 then ((ybd.f k l0_0 l0_1).bind fun t1009 => (if t1009 ≤ 256 then (if (t1005.length : Int) > 0 then (if 0 < (t1002.length : Int) then (if (Int.tmod (rd t1002 0) 2) = 1 then ((yat.f k 3).bind fun t1011 => ((yas.f k t1005 t1011).bind fun t1014 => (if t1014 ≥ 0 then (if 0 < (t1005.length : Int) then (if (Int.tmod (rd t1005 0) 2) = 1 then ((yas.f k t1005 t1002).bind fun t1016 => (some (decide (t1016 < 0)))) else (some false)) else (none)) else (some false)))) else (some false)) else (none)) else (some false)) else (some false))) else (some false))))) = some r := h
 clear h
 replace H := Option.bind_eq_some_iff.mp H
 obtain ⟨t1002, A20, H⟩ := H
 replace H : ((yah.f k l0_1).bind fun t1005 => ((ybd.f k l0_0 l0_1).bind fun t1008 => (if t1008 ≥ 62 then ((ybd.f k l0_0 l0_1).bind fun t1009 => (if t1009 ≤ 256 then (if (t1005.length : Int) > 0 then (if 0 < (t1002.length : Int) then (if (Int.tmod (rd t1002 0) 2) = 1 then ((yat.f k 3).bind fun t1011 => ((yas.f k t1005 t1011).bind fun t1014 => (if t1014 ≥ 0 then (if 0 < (t1005.length : Int) then (if (Int.tmod (rd t1005 0) 2) = 1 then ((yas.f k t1005 t1002).bind fun t1016 => (some (decide (t1016 < 0)))) else (some false)) else (none)) else (some false)))) else (some false)) else (none)) else (some false)) else (some false))) else (some false)))) = some r := H
 have A2 := Aside0.mk A20
 clear A20
 replace H := Option.bind_eq_some_iff.mp H
 obtain ⟨t1005, A30, H⟩ := H
 replace H : ((ybd.f k l0_0 l0_1).bind fun t1008 => (if t1008 ≥ 62 then ((ybd.f k l0_0 l0_1).bind fun t1009 => (if t1009 ≤ 256 then (if (t1005.length : Int) > 0 then (if 0 < (t1002.length : Int) then (if (Int.tmod (rd t1002 0) 2) = 1 then ((yat.f k 3).bind fun t1011 => ((yas.f k t1005 t1011).bind fun t1014 => (if t1014 ≥ 0 then (if 0 < (t1005.length : Int) then (if (Int.tmod (rd t1005 0) 2) = 1 then ((yas.f k t1005 t1002).bind fun t1016 => (some (decide (t1016 < 0)))) else (some false)) else (none)) else (some false)))) else (some false)) else (none)) else (some false)) else (some false))) else (some false))) = some r := H
 have A3 := Aside0.mk A30
 clear A30
 replace H := Option.bind_eq_some_iff.mp H
 obtain ⟨t1008, A40, H⟩ := H
 replace H : (if t1008 ≥ 62 then ((ybd.f k l0_0 l0_1).bind fun t1009 => (if t1009 ≤ 256 then (if (t1005.length : Int) > 0 then (if 0 < (t1002.length : Int) then (if (Int.tmod (rd t1002 0) 2) = 1 then ((yat.f k 3).bind fun t1011 => ((yas.f k t1005 t1011).bind fun t1014 => (if t1014 ≥ 0 then (if 0 < (t1005.length : Int) then (if (Int.tmod (rd t1005 0) 2) = 1 then ((yas.f k t1005 t1002).bind fun t1016 => (some (decide (t1016 < 0)))) else (some false)) else (none)) else (some false)))) else (some false)) else (none)) else (some false)) else (some false))) else (some false)) = some r := H
 have A4 := Aside0.mk A40
 clear A40
 by_cases c5 : t1008 ≥ 62
 · rw [if_pos c5] at H
   have c5b0 : decide (62 ≤ t1008) = true := decide_eq_true c5
   clear c5
   replace H := Option.bind_eq_some_iff.mp H
   obtain ⟨t1009, A60, H⟩ := H
   replace H : (if t1009 ≤ 256 then (if (t1005.length : Int) > 0 then (if 0 < (t1002.length : Int) then (if (Int.tmod (rd t1002 0) 2) = 1 then ((yat.f k 3).bind fun t1011 => ((yas.f k t1005 t1011).bind fun t1014 => (if t1014 ≥ 0 then (if 0 < (t1005.length : Int) then (if (Int.tmod (rd t1005 0) 2) = 1 then ((yas.f k t1005 t1002).bind fun t1016 => (some (decide (t1016 < 0)))) else (some false)) else (none)) else (some false)))) else (some false)) else (none)) else (some false)) else (some false)) = some r := H
   have A6 := Aside0.mk A60
   clear A60
   by_cases c7 : t1009 ≤ 256
   · rw [if_pos c7] at H
     have c7b0 : decide (t1009 ≤ 256) = true := decide_eq_true c7
     clear c7
     by_cases c8 : (t1005.length : Int) > 0
     · rw [if_pos c8] at H
       have c8b0 : decide (0 < (t1005.length : Int)) = true := decide_eq_true c8
       have c8b1 : decide (0 < t1005.length) = true := decide_eq_true (by omega)
       clear c8
       by_cases c9 : 0 < (t1002.length : Int)
       · rw [if_pos c9] at H
         have c9b0 : decide (0 < (t1002.length : Int)) = true := decide_eq_true c9
         have c9b1 : decide (0 < t1002.length) = true := decide_eq_true (by omega)
         clear c9
         by_cases c10 : (Int.tmod (rd t1002 0) 2) = 1
         · rw [if_pos c10] at H
           have c10b0 : ((Int.tmod (rd t1002 0) 2) == 1) = true := beq_iff_eq.mpr c10
           have c10b1 : ((Int.tmod (rd t1002 0) 2) != 1) = false := bne_eq_false_iff_eq.mpr c10
           clear c10
           replace H := Option.bind_eq_some_iff.mp H
           obtain ⟨t1011, A110, H⟩ := H
           replace H : ((yas.f k t1005 t1011).bind fun t1014 => (if t1014 ≥ 0 then (if 0 < (t1005.length : Int) then (if (Int.tmod (rd t1005 0) 2) = 1 then ((yas.f k t1005 t1002).bind fun t1016 => (some (decide (t1016 < 0)))) else (some false)) else (none)) else (some false))) = some r := H
           have A11 := Aside0.mk A110
           clear A110
           replace H := Option.bind_eq_some_iff.mp H
           obtain ⟨t1014, A120, H⟩ := H
           replace H : (if t1014 ≥ 0 then (if 0 < (t1005.length : Int) then (if (Int.tmod (rd t1005 0) 2) = 1 then ((yas.f k t1005 t1002).bind fun t1016 => (some (decide (t1016 < 0)))) else (some false)) else (none)) else (some false)) = some r := H
           have A12 := Aside0.mk A120
           clear A120
           by_cases c13 : t1014 ≥ 0
           · rw [if_pos c13] at H
             have c13b0 : decide (0 ≤ t1014) = true := decide_eq_true c13
             clear c13
             by_cases c14 : 0 < (t1005.length : Int)
             · rw [if_pos c14] at H
               have c14b0 : decide (0 < (t1005.length : Int)) = true := decide_eq_true c14
               have c14b1 : decide (0 < t1005.length) = true := decide_eq_true (by omega)
               clear c14
               by_cases c15 : (Int.tmod (rd t1005 0) 2) = 1
               · rw [if_pos c15] at H
                 have c15b0 : ((Int.tmod (rd t1005 0) 2) == 1) = true := beq_iff_eq.mpr c15
                 have c15b1 : ((Int.tmod (rd t1005 0) 2) != 1) = false := bne_eq_false_iff_eq.mpr c15
                 clear c15
                 replace H := Option.bind_eq_some_iff.mp H
                 obtain ⟨t1016, A160, H⟩ := H
                 replace H : (some (decide (t1016 < 0))) = some r := H
                 have A16 := Aside0.mk A160
                 clear A160
                 obtain rfl := Option.some.inj H
                 go_enter Try.func27, Try.ntmps27
                 try go_wp2_with (first | ((with_reducible refine ybu (N := 1) rfl ?_); (try (refine ydn (by rfl) ?_; dsimp only)); refine ydl ?hg (N := 1) ?hd (cs := #[.slice A0_0 l0_0.length c0_0, .slice A0_1 l0_1.length c0_1]) (t := 47) ?hr ?_; (case hd => rfl); (case hg => rfl); (case hr => first | (go_simp; done) | (go_simp; rfl)); intro gb1001 hg w17 hbox hb; have n0_ := Aside0.mk (yai Z7_ hb); have n1_ := Aside0.mk (hbox); have n2_ := Aside0.mk ((by rw [hg]; exact (yaj Z7_) : w.heap.size ≤ gb1001)); have n3_ := Aside0.mk ((by rw [hg]; exact (yaj Z7_) : w.heap.size ≤ gb1001)); clear HB; have HB := n0_; have BK1001 := n1_; have GW1001 := n2_; have GE1001 := n3_; clear n0_ n1_ n2_ n3_; clear hb hbox hg))
                 have n0_ := Aside0.mk (yeg BK1001.out)
                 have n1_ := Aside0.mk (yac HB.out)
                 clear BK1001
                 clear HB
                 have BK1001 := n0_
                 have HB := n1_
                 clear n0_ n1_
                 refine yeq (n := 8) (S := fun w' => w'.cell? ⟨gb1001, 0, none⟩ = some (.slice A0_0 l0_0.length c0_0) ∧ w'.cell? ⟨gb1001, 1, none⟩ = some (.slice A0_1 l0_1.length c0_1)) (ds := []) Q0_ (by kernel_rfl) rfl rfl ⟨(yaa BK1001.out 0).trans rfl, (yaa BK1001.out 1).trans rfl⟩ (fun hHeld => ?_); refine yde ybf.tab1 ybf.bits1 (fun HT_ HW_ => ?_)
                 generalize w17.drew = w18 at BK1001 HB hHeld ⊢
                 refine pV 0 5 Q1_ (yae HT_.out (by kernel_rfl)) ?_
                 refine pV 3 8 Q2_ (yae HT_.out (by kernel_rfl)) ?_
                 refine pT2 1 6 Q3_ (ycd HT_.out HW_.out (by kernel_rfl)) hHeld ?_
                 refine pT2 4 9 Q4_ (ycd HT_.out HW_.out (by kernel_rfl)) hHeld ?_
                 refine one_ (i := 2) (N := some 7) Q5_ rfl rfl (ydr HT_.out (by kernel_rfl)) (by decide) (fun K hK => ?_)
                 refine yfa Try.func12 (by kernel_rfl) rfl #[.slice A0_0 l0_0.length c0_0] (by rfl) rfl rfl Z6_ ?_
                 with_reducible refine (yah.calls k _ _ l0_0 t1002 _ ?side1 ?side2 A2.out).mono ?_
                 (case side1 => repeat (first | exact (Kd.ybg HR0_0.out HB.out) | (with_reducible refine Kd.yau ?_ _) | (with_reducible refine Kd.yaw ?_ _) | (with_reducible refine Kd.ybe ?_)))
                 (case side2 => exact HC0_0.out)
                 rintro e w19 ⟨v1003, rfl, ho0, hb⟩
                 refine ⟨_, rfl, ?_⟩
                 have n0_ := Aside0.mk (Kd.ybl ho0 (yaj Z5_))
                 have n1_ := Aside0.mk (ybq (g := gb1001) (o := .cells #[.slice A0_0 l0_0.length c0_0, .slice A0_1 l0_1.length c0_1] 47 (0, 0)) Z8_ hb)
                 have n2_ := Aside0.mk (yai Z5_ hb)
                 clear BK1001
                 clear HB
                 have HO1004 := n0_
                 have BK1001 := n1_
                 have HB := n2_
                 clear n0_ n1_ n2_
                 (try clear hb)
                 (try clear hb2)
                 (try clear hk)
                 (try clear hi)
                 (try clear ho0)
                 refine hK.out _ _ ⟨(yaa BK1001.out 0).trans rfl, (yaa BK1001.out 1).trans rfl⟩ (fun hHeld => ?_)
                 clear hK K
                 refine pN 7 ?_
                 refine one_ (i := 5) (N := some 10) Q6_ rfl rfl (ydr HT_.out (by kernel_rfl)) (by decide) (fun K hK => ?_)
                 refine yfa Try.func12 (by kernel_rfl) rfl #[.slice A0_1 l0_1.length c0_1] (by rfl) rfl rfl Z6_ ?_
                 with_reducible refine (yah.calls k _ _ l0_1 t1005 _ ?side1 ?side2 A3.out).mono ?_
                 (case side1 => repeat (first | exact (Kd.ybg HR0_1.out HB.out) | (with_reducible refine Kd.yau ?_ _) | (with_reducible refine Kd.yaw ?_ _) | (with_reducible refine Kd.ybe ?_)))
                 (case side2 => exact HC0_1.out)
                 rintro e w20 ⟨v1006, rfl, ho0, hb⟩
                 refine ⟨_, rfl, ?_⟩
                 have n0_ := Aside0.mk (Kd.R_elder' Z16_ (Kd.ycf ho0) hb)
                 have n1_ := Aside0.mk (Kd.ybl (Kd.R_new' ho0 (Kd.R_lt Z16_)) (yaj Z5_))
                 have n2_ := Aside0.mk (ybq (g := gb1001) (o := .cells #[.slice A0_0 l0_0.length c0_0, .slice A0_1 l0_1.length c0_1] 47 (0, 0)) Z8_ hb)
                 have n3_ := Aside0.mk (yai Z5_ hb)
                 clear HO1004
                 clear BK1001
                 clear HB
                 have HO1004 := n0_
                 have HO1007 := n1_
                 have BK1001 := n2_
                 have HB := n3_
                 clear n0_ n1_ n2_ n3_
                 (try clear hb)
                 (try clear hb2)
                 (try clear hk)
                 (try clear hi)
                 (try clear ho0)
                 refine hK.out _ _ ⟨(yaa BK1001.out 0).trans rfl, (yaa BK1001.out 1).trans rfl⟩ (fun hHeld => ?_)
                 clear hK K
                 refine pN 10 ?_
                 refine pV 6 3 Q7_ (yae HT_.out (by kernel_rfl)) ?_
                 refine pV 7 4 Q8_ (yae HT_.out (by kernel_rfl)) ?_
                 refine yfk (ydx HT_.out (by kernel_rfl)) ?_
                 have hcz21_0 : w20.cell? ⟨gb1001, 0, none⟩ = some (.slice A0_0 l0_0.length c0_0) := (yaa BK1001.out 0).trans rfl
                 have hcz21_1 : w20.cell? ⟨gb1001, 1, none⟩ = some (.slice A0_1 l0_1.length c0_1) := (yaa BK1001.out 1).trans rfl
                 have hfz21_0 := ybo BK1001.out 0
                 have hfz21_1 := ybo BK1001.out 1
                 try go_wp2_with (first | ((with_reducible refine yar (f := 29) rfl ?_); refine yce (some 12) rfl rfl Try.func29 (by kernel_rfl) rfl #[.agg #[.slice A0_0 l0_0.length c0_0, .slice A0_1 l0_1.length c0_1]] rfl Z6_ ?_; (with_reducible refine (ybd.calls k _ _ l0_0 _ _ l0_1 t1008 _ ?side1 ?side2 ?side3 ?side4 A4.out).mono ?_); (case side1 => repeat (first | exact (Kd.ybg HR0_0.out HB.out) | (with_reducible refine Kd.yau ?_ _) | (with_reducible refine Kd.yaw ?_ _) | (with_reducible refine Kd.ybe ?_))); (case side2 => exact HC0_0.out); (case side3 => repeat (first | exact (Kd.ybg HR0_1.out HB.out) | (with_reducible refine Kd.yau ?_ _) | (with_reducible refine Kd.yaw ?_ _) | (with_reducible refine Kd.ybe ?_))); (case side4 => exact HC0_1.out); rintro e w22 ⟨rfl, hb⟩; refine ⟨_, rfl, ?_⟩; have n0_ := Aside0.mk (Kd.ycc Z16_ hb); have n1_ := Aside0.mk (Kd.ycc Z17_ hb); have n2_ := Aside0.mk (ybq (g := gb1001) (o := .cells #[.slice A0_0 l0_0.length c0_0, .slice A0_1 l0_1.length c0_1] 47 (0, 0)) Z8_ hb); have n3_ := Aside0.mk (yai Z5_ hb); clear HO1004; clear HO1007; clear BK1001; clear HB; have HO1004 := n0_; have HO1007 := n1_; have BK1001 := n2_; have HB := n3_; clear n0_ n1_ n2_ n3_; (try clear hb); (try clear hb2); (try clear hk); (try clear hi); have hcz23_0 : w22.cell? ⟨gb1001, 0, none⟩ = some (.slice A0_0 l0_0.length c0_0) := (yaa BK1001.out 0).trans rfl; have hcz23_1 : w22.cell? ⟨gb1001, 1, none⟩ = some (.slice A0_1 l0_1.length c0_1) := (yaa BK1001.out 1).trans rfl; have hfz23_0 := ybo BK1001.out 0; have hfz23_1 := ybo BK1001.out 1) | (go_at_call 29; (with_reducible refine (ybd.calls k _ _ l0_0 _ _ l0_1 t1009 _ ?side1 ?side2 ?side3 ?side4 A6.out).mono ?_); (case side1 => repeat (first | exact (Kd.ybg HR0_0.out HB.out) | (with_reducible refine Kd.yau ?_ _) | (with_reducible refine Kd.yaw ?_ _) | (with_reducible refine Kd.ybe ?_))); (case side2 => exact HC0_0.out); (case side3 => repeat (first | exact (Kd.ybg HR0_1.out HB.out) | (with_reducible refine Kd.yau ?_ _) | (with_reducible refine Kd.yaw ?_ _) | (with_reducible refine Kd.ybe ?_))); (case side4 => exact HC0_1.out); rintro e w24 ⟨rfl, hb⟩; have n0_ := Aside0.mk (Kd.ycc Z16_ hb); have n1_ := Aside0.mk (Kd.ycc Z17_ hb); have n2_ := Aside0.mk (ybq (g := gb1001) (o := .cells #[.slice A0_0 l0_0.length c0_0, .slice A0_1 l0_1.length c0_1] 47 (0, 0)) Z8_ hb); have n3_ := Aside0.mk (yai Z5_ hb); clear HO1004; clear HO1007; clear BK1001; clear HB; have HO1004 := n0_; have HO1007 := n1_; have BK1001 := n2_; have HB := n3_; clear n0_ n1_ n2_ n3_; (try clear hb); (try clear hb2); (try clear hk); (try clear hi); obtain ⟨Ao25, co25, eo25⟩ := Kd.ybc HO1007.out; subst eo25; obtain ⟨Ao26, co26, eo26⟩ := Kd.ybc HO1004.out; subst eo26; have p1010 : 0 ≤ (0 : Int) := (by omega); have q1010 : 0 < (t1002.length : Int) := of_decide_eq_true Z26_; obtain ⟨ad1010, e1010, hx1010_0⟩ := Kd.ybs (Kd.R_reads' HO1004.out).2.2 0 p1010 q1010; cases e1010; have qi1010 : (0 < t1002.length) = True := eq_true (by omega); (try rw [show ((0 : Int)).toNat = 0 from rfl] at hx1010_0); (try rw [Addr.add_zero'] at hx1010_0); replace p1010 := eq_true p1010; replace q1010 := eq_true q1010) | (go_at_call 51; (with_reducible refine (yat.calls k 3 t1011 _ A11.out).mono ?_); rintro e w27 ⟨v1012, rfl, ho0, hb⟩; have n0_ := Aside0.mk (Kd.R_elder' Z16_ (Kd.ycf ho0) hb); have n1_ := Aside0.mk (Kd.R_elder' Z17_ (Kd.ycf ho0) hb); have n2_ := Aside0.mk (Kd.ybl (Kd.R_new' (Kd.R_new' ho0 (Kd.R_lt Z16_)) (Kd.R_lt Z17_)) (yaj Z5_)); have n3_ := Aside0.mk (ybq (g := gb1001) (o := .cells #[.slice A0_0 l0_0.length c0_0, .slice A0_1 l0_1.length c0_1] 47 (0, 0)) Z8_ hb); have n4_ := Aside0.mk (yai Z5_ hb); clear HO1004; clear HO1007; clear BK1001; clear HB; have HO1004 := n0_; have HO1007 := n1_; have HO1013 := n2_; have BK1001 := n3_; have HB := n4_; clear n0_ n1_ n2_ n3_ n4_; (try clear hb); (try clear hb2); (try clear hk); (try clear hi); (try clear ho0); obtain ⟨Ao28, co28, eo28⟩ := Kd.ybc HO1013.out; subst eo28) | (go_at_call 63; (with_reducible refine (yas.calls k _ _ t1005 _ _ t1011 t1014 _ ?side1 ?side2 ?side3 ?side4 A12.out).mono ?_); (case side1 => repeat (first | exact (Kd.R_reads' HO1007.out).2.2 | (with_reducible refine Kd.yau ?_ _) | (with_reducible refine Kd.yaw ?_ _) | (with_reducible refine Kd.ybe ?_))); (case side2 => exact (Kd.R_reads' HO1007.out).2.1); (case side3 => repeat (first | exact (Kd.R_reads' HO1013.out).2.2 | (with_reducible refine Kd.yau ?_ _) | (with_reducible refine Kd.yaw ?_ _) | (with_reducible refine Kd.ybe ?_))); (case side4 => exact (Kd.R_reads' HO1013.out).2.1); rintro e w' ⟨rfl, ⟨nd, rfl⟩⟩; (try clear A12); have p1015 : 0 ≤ (0 : Int) := (by omega); have q1015 : 0 < (t1005.length : Int) := of_decide_eq_true Z26_; obtain ⟨ad1015, e1015, hx1015_0⟩ := Kd.ybs (Kd.R_reads' HO1007.out).2.2 0 p1015 q1015; cases e1015; have qi1015 : (0 < t1005.length) = True := eq_true (by omega); (try rw [show ((0 : Int)).toNat = 0 from rfl] at hx1015_0); (try rw [Addr.add_zero'] at hx1015_0); replace p1015 := eq_true p1015; replace q1015 := eq_true q1015) | (go_at_call 63; (with_reducible refine (yas.calls k _ _ t1005 _ _ t1002 t1016 _ ?side1 ?side2 ?side3 ?side4 A16.out).mono ?_); (case side1 => repeat (first | exact (Kd.R_reads' HO1007.out).2.2 | (with_reducible refine Kd.yau ?_ _) | (with_reducible refine Kd.yaw ?_ _) | (with_reducible refine Kd.ybe ?_))); (case side2 => exact (Kd.R_reads' HO1007.out).2.1); (case side3 => repeat (first | exact (Kd.R_reads' HO1004.out).2.2 | (with_reducible refine Kd.yau ?_ _) | (with_reducible refine Kd.yaw ?_ _) | (with_reducible refine Kd.ybe ?_))); (case side4 => exact (Kd.R_reads' HO1004.out).2.1); rintro e w' ⟨rfl, ⟨nd, rfl⟩⟩))
                 go_ret
                 exact ⟨by first | rfl | (simp [yap, yao] <;> rfl) | (simp [*, yap, yao] <;> rfl), by repeat (first | (with_reducible first | exact HB.out | apply yad | apply yab | apply yac | refine ybx ?_ GE1001.out) | exact HB.out)⟩
               · rw [if_neg c15] at H
                 have c15b0 : ((Int.tmod (rd t1005 0) 2) == 1) = false := beq_eq_false_iff_ne.mpr c15
                 have c15b1 : ((Int.tmod (rd t1005 0) 2) != 1) = true := bne_iff_ne.mpr c15
                 obtain rfl := Option.some.inj H
                 go_enter Try.func27, Try.ntmps27
                 try go_wp2_with (first | ((with_reducible refine ybu (N := 1) rfl ?_); (try (refine ydn (by rfl) ?_; dsimp only)); refine ydl ?hg (N := 1) ?hd (cs := #[.slice A0_0 l0_0.length c0_0, .slice A0_1 l0_1.length c0_1]) (t := 47) ?hr ?_; (case hd => rfl); (case hg => rfl); (case hr => first | (go_simp; done) | (go_simp; rfl)); intro gb1001 hg w29 hbox hb; have n0_ := Aside0.mk (yai Z7_ hb); have n1_ := Aside0.mk (hbox); have n2_ := Aside0.mk ((by rw [hg]; exact (yaj Z7_) : w.heap.size ≤ gb1001)); have n3_ := Aside0.mk ((by rw [hg]; exact (yaj Z7_) : w.heap.size ≤ gb1001)); clear HB; have HB := n0_; have BK1001 := n1_; have GW1001 := n2_; have GE1001 := n3_; clear n0_ n1_ n2_ n3_; clear hb hbox hg))
                 have n0_ := Aside0.mk (yeg BK1001.out)
                 have n1_ := Aside0.mk (yac HB.out)
                 clear BK1001
                 clear HB
                 have BK1001 := n0_
                 have HB := n1_
                 clear n0_ n1_
                 refine yeq (n := 8) (S := fun w' => w'.cell? ⟨gb1001, 0, none⟩ = some (.slice A0_0 l0_0.length c0_0) ∧ w'.cell? ⟨gb1001, 1, none⟩ = some (.slice A0_1 l0_1.length c0_1)) (ds := []) Q0_ (by kernel_rfl) rfl rfl ⟨(yaa BK1001.out 0).trans rfl, (yaa BK1001.out 1).trans rfl⟩ (fun hHeld => ?_); refine yde ybf.tab1 ybf.bits1 (fun HT_ HW_ => ?_)
                 generalize w29.drew = w30 at BK1001 HB hHeld ⊢
                 refine pV 0 5 Q1_ (yae HT_.out (by kernel_rfl)) ?_
                 refine pV 3 8 Q2_ (yae HT_.out (by kernel_rfl)) ?_
                 refine pT2 1 6 Q3_ (ycd HT_.out HW_.out (by kernel_rfl)) hHeld ?_
                 refine pT2 4 9 Q4_ (ycd HT_.out HW_.out (by kernel_rfl)) hHeld ?_
                 refine one_ (i := 2) (N := some 7) Q5_ rfl rfl (ydr HT_.out (by kernel_rfl)) (by decide) (fun K hK => ?_)
                 refine yfa Try.func12 (by kernel_rfl) rfl #[.slice A0_0 l0_0.length c0_0] (by rfl) rfl rfl Z6_ ?_
                 with_reducible refine (yah.calls k _ _ l0_0 t1002 _ ?side1 ?side2 A2.out).mono ?_
                 (case side1 => repeat (first | exact (Kd.ybg HR0_0.out HB.out) | (with_reducible refine Kd.yau ?_ _) | (with_reducible refine Kd.yaw ?_ _) | (with_reducible refine Kd.ybe ?_)))
                 (case side2 => exact HC0_0.out)
                 rintro e w31 ⟨v1003, rfl, ho0, hb⟩
                 refine ⟨_, rfl, ?_⟩
                 have n0_ := Aside0.mk (Kd.ybl ho0 (yaj Z5_))
                 have n1_ := Aside0.mk (ybq (g := gb1001) (o := .cells #[.slice A0_0 l0_0.length c0_0, .slice A0_1 l0_1.length c0_1] 47 (0, 0)) Z8_ hb)
                 have n2_ := Aside0.mk (yai Z5_ hb)
                 clear BK1001
                 clear HB
                 have HO1004 := n0_
                 have BK1001 := n1_
                 have HB := n2_
                 clear n0_ n1_ n2_
                 (try clear hb)
                 (try clear hb2)
                 (try clear hk)
                 (try clear hi)
                 (try clear ho0)
                 refine hK.out _ _ ⟨(yaa BK1001.out 0).trans rfl, (yaa BK1001.out 1).trans rfl⟩ (fun hHeld => ?_)
                 clear hK K
                 refine pN 7 ?_
                 refine one_ (i := 5) (N := some 10) Q6_ rfl rfl (ydr HT_.out (by kernel_rfl)) (by decide) (fun K hK => ?_)
                 refine yfa Try.func12 (by kernel_rfl) rfl #[.slice A0_1 l0_1.length c0_1] (by rfl) rfl rfl Z6_ ?_
                 with_reducible refine (yah.calls k _ _ l0_1 t1005 _ ?side1 ?side2 A3.out).mono ?_
                 (case side1 => repeat (first | exact (Kd.ybg HR0_1.out HB.out) | (with_reducible refine Kd.yau ?_ _) | (with_reducible refine Kd.yaw ?_ _) | (with_reducible refine Kd.ybe ?_)))
                 (case side2 => exact HC0_1.out)
                 rintro e w32 ⟨v1006, rfl, ho0, hb⟩
                 refine ⟨_, rfl, ?_⟩
                 have n0_ := Aside0.mk (Kd.R_elder' Z16_ (Kd.ycf ho0) hb)
                 have n1_ := Aside0.mk (Kd.ybl (Kd.R_new' ho0 (Kd.R_lt Z16_)) (yaj Z5_))
                 have n2_ := Aside0.mk (ybq (g := gb1001) (o := .cells #[.slice A0_0 l0_0.length c0_0, .slice A0_1 l0_1.length c0_1] 47 (0, 0)) Z8_ hb)
                 have n3_ := Aside0.mk (yai Z5_ hb)
                 clear HO1004
                 clear BK1001
                 clear HB
                 have HO1004 := n0_
                 have HO1007 := n1_
                 have BK1001 := n2_
                 have HB := n3_
                 clear n0_ n1_ n2_ n3_
                 (try clear hb)
                 (try clear hb2)
                 (try clear hk)
                 (try clear hi)
                 (try clear ho0)
                 refine hK.out _ _ ⟨(yaa BK1001.out 0).trans rfl, (yaa BK1001.out 1).trans rfl⟩ (fun hHeld => ?_)
                 clear hK K
                 refine pN 10 ?_
                 refine pV 6 3 Q7_ (yae HT_.out (by kernel_rfl)) ?_
                 refine pV 7 4 Q8_ (yae HT_.out (by kernel_rfl)) ?_
                 refine yfk (ydx HT_.out (by kernel_rfl)) ?_
                 have hcz33_0 : w32.cell? ⟨gb1001, 0, none⟩ = some (.slice A0_0 l0_0.length c0_0) := (yaa BK1001.out 0).trans rfl
                 have hcz33_1 : w32.cell? ⟨gb1001, 1, none⟩ = some (.slice A0_1 l0_1.length c0_1) := (yaa BK1001.out 1).trans rfl
                 have hfz33_0 := ybo BK1001.out 0
                 have hfz33_1 := ybo BK1001.out 1
                 try go_wp2_with (first | ((with_reducible refine yar (f := 29) rfl ?_); refine yce (some 12) rfl rfl Try.func29 (by kernel_rfl) rfl #[.agg #[.slice A0_0 l0_0.length c0_0, .slice A0_1 l0_1.length c0_1]] rfl Z6_ ?_; (with_reducible refine (ybd.calls k _ _ l0_0 _ _ l0_1 t1008 _ ?side1 ?side2 ?side3 ?side4 A4.out).mono ?_); (case side1 => repeat (first | exact (Kd.ybg HR0_0.out HB.out) | (with_reducible refine Kd.yau ?_ _) | (with_reducible refine Kd.yaw ?_ _) | (with_reducible refine Kd.ybe ?_))); (case side2 => exact HC0_0.out); (case side3 => repeat (first | exact (Kd.ybg HR0_1.out HB.out) | (with_reducible refine Kd.yau ?_ _) | (with_reducible refine Kd.yaw ?_ _) | (with_reducible refine Kd.ybe ?_))); (case side4 => exact HC0_1.out); rintro e w34 ⟨rfl, hb⟩; refine ⟨_, rfl, ?_⟩; have n0_ := Aside0.mk (Kd.ycc Z16_ hb); have n1_ := Aside0.mk (Kd.ycc Z17_ hb); have n2_ := Aside0.mk (ybq (g := gb1001) (o := .cells #[.slice A0_0 l0_0.length c0_0, .slice A0_1 l0_1.length c0_1] 47 (0, 0)) Z8_ hb); have n3_ := Aside0.mk (yai Z5_ hb); clear HO1004; clear HO1007; clear BK1001; clear HB; have HO1004 := n0_; have HO1007 := n1_; have BK1001 := n2_; have HB := n3_; clear n0_ n1_ n2_ n3_; (try clear hb); (try clear hb2); (try clear hk); (try clear hi); have hcz35_0 : w34.cell? ⟨gb1001, 0, none⟩ = some (.slice A0_0 l0_0.length c0_0) := (yaa BK1001.out 0).trans rfl; have hcz35_1 : w34.cell? ⟨gb1001, 1, none⟩ = some (.slice A0_1 l0_1.length c0_1) := (yaa BK1001.out 1).trans rfl; have hfz35_0 := ybo BK1001.out 0; have hfz35_1 := ybo BK1001.out 1) | (go_at_call 29; (with_reducible refine (ybd.calls k _ _ l0_0 _ _ l0_1 t1009 _ ?side1 ?side2 ?side3 ?side4 A6.out).mono ?_); (case side1 => repeat (first | exact (Kd.ybg HR0_0.out HB.out) | (with_reducible refine Kd.yau ?_ _) | (with_reducible refine Kd.yaw ?_ _) | (with_reducible refine Kd.ybe ?_))); (case side2 => exact HC0_0.out); (case side3 => repeat (first | exact (Kd.ybg HR0_1.out HB.out) | (with_reducible refine Kd.yau ?_ _) | (with_reducible refine Kd.yaw ?_ _) | (with_reducible refine Kd.ybe ?_))); (case side4 => exact HC0_1.out); rintro e w36 ⟨rfl, hb⟩; have n0_ := Aside0.mk (Kd.ycc Z16_ hb); have n1_ := Aside0.mk (Kd.ycc Z17_ hb); have n2_ := Aside0.mk (ybq (g := gb1001) (o := .cells #[.slice A0_0 l0_0.length c0_0, .slice A0_1 l0_1.length c0_1] 47 (0, 0)) Z8_ hb); have n3_ := Aside0.mk (yai Z5_ hb); clear HO1004; clear HO1007; clear BK1001; clear HB; have HO1004 := n0_; have HO1007 := n1_; have BK1001 := n2_; have HB := n3_; clear n0_ n1_ n2_ n3_; (try clear hb); (try clear hb2); (try clear hk); (try clear hi); obtain ⟨Ao37, co37, eo37⟩ := Kd.ybc HO1007.out; subst eo37; obtain ⟨Ao38, co38, eo38⟩ := Kd.ybc HO1004.out; subst eo38; have p1010 : 0 ≤ (0 : Int) := (by omega); have q1010 : 0 < (t1002.length : Int) := of_decide_eq_true Z26_; obtain ⟨ad1010, e1010, hx1010_0⟩ := Kd.ybs (Kd.R_reads' HO1004.out).2.2 0 p1010 q1010; cases e1010; have qi1010 : (0 < t1002.length) = True := eq_true (by omega); (try rw [show ((0 : Int)).toNat = 0 from rfl] at hx1010_0); (try rw [Addr.add_zero'] at hx1010_0); replace p1010 := eq_true p1010; replace q1010 := eq_true q1010) | (go_at_call 51; (with_reducible refine (yat.calls k 3 t1011 _ A11.out).mono ?_); rintro e w39 ⟨v1012, rfl, ho0, hb⟩; have n0_ := Aside0.mk (Kd.R_elder' Z16_ (Kd.ycf ho0) hb); have n1_ := Aside0.mk (Kd.R_elder' Z17_ (Kd.ycf ho0) hb); have n2_ := Aside0.mk (Kd.ybl (Kd.R_new' (Kd.R_new' ho0 (Kd.R_lt Z16_)) (Kd.R_lt Z17_)) (yaj Z5_)); have n3_ := Aside0.mk (ybq (g := gb1001) (o := .cells #[.slice A0_0 l0_0.length c0_0, .slice A0_1 l0_1.length c0_1] 47 (0, 0)) Z8_ hb); have n4_ := Aside0.mk (yai Z5_ hb); clear HO1004; clear HO1007; clear BK1001; clear HB; have HO1004 := n0_; have HO1007 := n1_; have HO1013 := n2_; have BK1001 := n3_; have HB := n4_; clear n0_ n1_ n2_ n3_ n4_; (try clear hb); (try clear hb2); (try clear hk); (try clear hi); (try clear ho0); obtain ⟨Ao40, co40, eo40⟩ := Kd.ybc HO1013.out; subst eo40) | (go_at_call 63; (with_reducible refine (yas.calls k _ _ t1005 _ _ t1011 t1014 _ ?side1 ?side2 ?side3 ?side4 A12.out).mono ?_); (case side1 => repeat (first | exact (Kd.R_reads' HO1007.out).2.2 | (with_reducible refine Kd.yau ?_ _) | (with_reducible refine Kd.yaw ?_ _) | (with_reducible refine Kd.ybe ?_))); (case side2 => exact (Kd.R_reads' HO1007.out).2.1); (case side3 => repeat (first | exact (Kd.R_reads' HO1013.out).2.2 | (with_reducible refine Kd.yau ?_ _) | (with_reducible refine Kd.yaw ?_ _) | (with_reducible refine Kd.ybe ?_))); (case side4 => exact (Kd.R_reads' HO1013.out).2.1); rintro e w' ⟨rfl, ⟨nd, rfl⟩⟩; have p1015 : 0 ≤ (0 : Int) := (by omega); have q1015 : 0 < (t1005.length : Int) := of_decide_eq_true Z26_; obtain ⟨ad1015, e1015, hx1015_0⟩ := Kd.ybs (Kd.R_reads' HO1007.out).2.2 0 p1015 q1015; cases e1015; have qi1015 : (0 < t1005.length) = True := eq_true (by omega); (try rw [show ((0 : Int)).toNat = 0 from rfl] at hx1015_0); (try rw [Addr.add_zero'] at hx1015_0); replace p1015 := eq_true p1015; replace q1015 := eq_true q1015))
                 go_ret
                 exact ⟨by first | rfl | (simp [yap, yao] <;> rfl) | (simp [*, yap, yao] <;> rfl), by repeat (first | (with_reducible first | exact HB.out | apply yad | apply yab | apply yac | refine ybx ?_ GE1001.out) | exact HB.out)⟩
             · rw [if_neg c14] at H
               exact absurd H (by simp)
           · rw [if_neg c13] at H
             have c13b0 : decide (0 ≤ t1014) = false := decide_eq_false c13
             clear c13
             obtain rfl := Option.some.inj H
             go_enter Try.func27, Try.ntmps27
             try go_wp2_with (first | ((with_reducible refine ybu (N := 1) rfl ?_); (try (refine ydn (by rfl) ?_; dsimp only)); refine ydl ?hg (N := 1) ?hd (cs := #[.slice A0_0 l0_0.length c0_0, .slice A0_1 l0_1.length c0_1]) (t := 47) ?hr ?_; (case hd => rfl); (case hg => rfl); (case hr => first | (go_simp; done) | (go_simp; rfl)); intro gb1001 hg w41 hbox hb; have n0_ := Aside0.mk (yai Z7_ hb); have n1_ := Aside0.mk (hbox); have n2_ := Aside0.mk ((by rw [hg]; exact (yaj Z7_) : w.heap.size ≤ gb1001)); have n3_ := Aside0.mk ((by rw [hg]; exact (yaj Z7_) : w.heap.size ≤ gb1001)); clear HB; have HB := n0_; have BK1001 := n1_; have GW1001 := n2_; have GE1001 := n3_; clear n0_ n1_ n2_ n3_; clear hb hbox hg))
             have n0_ := Aside0.mk (yeg BK1001.out)
             have n1_ := Aside0.mk (yac HB.out)
             clear BK1001
             clear HB
             have BK1001 := n0_
             have HB := n1_
             clear n0_ n1_
             refine yeq (n := 8) (S := fun w' => w'.cell? ⟨gb1001, 0, none⟩ = some (.slice A0_0 l0_0.length c0_0) ∧ w'.cell? ⟨gb1001, 1, none⟩ = some (.slice A0_1 l0_1.length c0_1)) (ds := []) Q0_ (by kernel_rfl) rfl rfl ⟨(yaa BK1001.out 0).trans rfl, (yaa BK1001.out 1).trans rfl⟩ (fun hHeld => ?_); refine yde ybf.tab1 ybf.bits1 (fun HT_ HW_ => ?_)
             generalize w41.drew = w42 at BK1001 HB hHeld ⊢
             refine pV 0 5 Q1_ (yae HT_.out (by kernel_rfl)) ?_
             refine pV 3 8 Q2_ (yae HT_.out (by kernel_rfl)) ?_
             refine pT2 1 6 Q3_ (ycd HT_.out HW_.out (by kernel_rfl)) hHeld ?_
             refine pT2 4 9 Q4_ (ycd HT_.out HW_.out (by kernel_rfl)) hHeld ?_
             refine one_ (i := 2) (N := some 7) Q5_ rfl rfl (ydr HT_.out (by kernel_rfl)) (by decide) (fun K hK => ?_)
             refine yfa Try.func12 (by kernel_rfl) rfl #[.slice A0_0 l0_0.length c0_0] (by rfl) rfl rfl Z6_ ?_
             with_reducible refine (yah.calls k _ _ l0_0 t1002 _ ?side1 ?side2 A2.out).mono ?_
             (case side1 => repeat (first | exact (Kd.ybg HR0_0.out HB.out) | (with_reducible refine Kd.yau ?_ _) | (with_reducible refine Kd.yaw ?_ _) | (with_reducible refine Kd.ybe ?_)))
             (case side2 => exact HC0_0.out)
             rintro e w43 ⟨v1003, rfl, ho0, hb⟩
             refine ⟨_, rfl, ?_⟩
             have n0_ := Aside0.mk (Kd.ybl ho0 (yaj Z5_))
             have n1_ := Aside0.mk (ybq (g := gb1001) (o := .cells #[.slice A0_0 l0_0.length c0_0, .slice A0_1 l0_1.length c0_1] 47 (0, 0)) Z8_ hb)
             have n2_ := Aside0.mk (yai Z5_ hb)
             clear BK1001
             clear HB
             have HO1004 := n0_
             have BK1001 := n1_
             have HB := n2_
             clear n0_ n1_ n2_
             (try clear hb)
             (try clear hb2)
             (try clear hk)
             (try clear hi)
             (try clear ho0)
             refine hK.out _ _ ⟨(yaa BK1001.out 0).trans rfl, (yaa BK1001.out 1).trans rfl⟩ (fun hHeld => ?_)
             clear hK K
             refine pN 7 ?_
             refine one_ (i := 5) (N := some 10) Q6_ rfl rfl (ydr HT_.out (by kernel_rfl)) (by decide) (fun K hK => ?_)
             refine yfa Try.func12 (by kernel_rfl) rfl #[.slice A0_1 l0_1.length c0_1] (by rfl) rfl rfl Z6_ ?_
             with_reducible refine (yah.calls k _ _ l0_1 t1005 _ ?side1 ?side2 A3.out).mono ?_
             (case side1 => repeat (first | exact (Kd.ybg HR0_1.out HB.out) | (with_reducible refine Kd.yau ?_ _) | (with_reducible refine Kd.yaw ?_ _) | (with_reducible refine Kd.ybe ?_)))
             (case side2 => exact HC0_1.out)
             rintro e w44 ⟨v1006, rfl, ho0, hb⟩
             refine ⟨_, rfl, ?_⟩
             have n0_ := Aside0.mk (Kd.R_elder' Z16_ (Kd.ycf ho0) hb)
             have n1_ := Aside0.mk (Kd.ybl (Kd.R_new' ho0 (Kd.R_lt Z16_)) (yaj Z5_))
             have n2_ := Aside0.mk (ybq (g := gb1001) (o := .cells #[.slice A0_0 l0_0.length c0_0, .slice A0_1 l0_1.length c0_1] 47 (0, 0)) Z8_ hb)
             have n3_ := Aside0.mk (yai Z5_ hb)
             clear HO1004
             clear BK1001
             clear HB
             have HO1004 := n0_
             have HO1007 := n1_
             have BK1001 := n2_
             have HB := n3_
             clear n0_ n1_ n2_ n3_
             (try clear hb)
             (try clear hb2)
             (try clear hk)
             (try clear hi)
             (try clear ho0)
             refine hK.out _ _ ⟨(yaa BK1001.out 0).trans rfl, (yaa BK1001.out 1).trans rfl⟩ (fun hHeld => ?_)
             clear hK K
             refine pN 10 ?_
             refine pV 6 3 Q7_ (yae HT_.out (by kernel_rfl)) ?_
             refine pV 7 4 Q8_ (yae HT_.out (by kernel_rfl)) ?_
             refine yfk (ydx HT_.out (by kernel_rfl)) ?_
             have hcz45_0 : w44.cell? ⟨gb1001, 0, none⟩ = some (.slice A0_0 l0_0.length c0_0) := (yaa BK1001.out 0).trans rfl
             have hcz45_1 : w44.cell? ⟨gb1001, 1, none⟩ = some (.slice A0_1 l0_1.length c0_1) := (yaa BK1001.out 1).trans rfl
             have hfz45_0 := ybo BK1001.out 0
             have hfz45_1 := ybo BK1001.out 1
             try go_wp2_with (first | ((with_reducible refine yar (f := 29) rfl ?_); refine yce (some 12) rfl rfl Try.func29 (by kernel_rfl) rfl #[.agg #[.slice A0_0 l0_0.length c0_0, .slice A0_1 l0_1.length c0_1]] rfl Z6_ ?_; (with_reducible refine (ybd.calls k _ _ l0_0 _ _ l0_1 t1008 _ ?side1 ?side2 ?side3 ?side4 A4.out).mono ?_); (case side1 => repeat (first | exact (Kd.ybg HR0_0.out HB.out) | (with_reducible refine Kd.yau ?_ _) | (with_reducible refine Kd.yaw ?_ _) | (with_reducible refine Kd.ybe ?_))); (case side2 => exact HC0_0.out); (case side3 => repeat (first | exact (Kd.ybg HR0_1.out HB.out) | (with_reducible refine Kd.yau ?_ _) | (with_reducible refine Kd.yaw ?_ _) | (with_reducible refine Kd.ybe ?_))); (case side4 => exact HC0_1.out); rintro e w46 ⟨rfl, hb⟩; refine ⟨_, rfl, ?_⟩; have n0_ := Aside0.mk (Kd.ycc Z16_ hb); have n1_ := Aside0.mk (Kd.ycc Z17_ hb); have n2_ := Aside0.mk (ybq (g := gb1001) (o := .cells #[.slice A0_0 l0_0.length c0_0, .slice A0_1 l0_1.length c0_1] 47 (0, 0)) Z8_ hb); have n3_ := Aside0.mk (yai Z5_ hb); clear HO1004; clear HO1007; clear BK1001; clear HB; have HO1004 := n0_; have HO1007 := n1_; have BK1001 := n2_; have HB := n3_; clear n0_ n1_ n2_ n3_; (try clear hb); (try clear hb2); (try clear hk); (try clear hi); have hcz47_0 : w46.cell? ⟨gb1001, 0, none⟩ = some (.slice A0_0 l0_0.length c0_0) := (yaa BK1001.out 0).trans rfl; have hcz47_1 : w46.cell? ⟨gb1001, 1, none⟩ = some (.slice A0_1 l0_1.length c0_1) := (yaa BK1001.out 1).trans rfl; have hfz47_0 := ybo BK1001.out 0; have hfz47_1 := ybo BK1001.out 1) | (go_at_call 29; (with_reducible refine (ybd.calls k _ _ l0_0 _ _ l0_1 t1009 _ ?side1 ?side2 ?side3 ?side4 A6.out).mono ?_); (case side1 => repeat (first | exact (Kd.ybg HR0_0.out HB.out) | (with_reducible refine Kd.yau ?_ _) | (with_reducible refine Kd.yaw ?_ _) | (with_reducible refine Kd.ybe ?_))); (case side2 => exact HC0_0.out); (case side3 => repeat (first | exact (Kd.ybg HR0_1.out HB.out) | (with_reducible refine Kd.yau ?_ _) | (with_reducible refine Kd.yaw ?_ _) | (with_reducible refine Kd.ybe ?_))); (case side4 => exact HC0_1.out); rintro e w48 ⟨rfl, hb⟩; have n0_ := Aside0.mk (Kd.ycc Z16_ hb); have n1_ := Aside0.mk (Kd.ycc Z17_ hb); have n2_ := Aside0.mk (ybq (g := gb1001) (o := .cells #[.slice A0_0 l0_0.length c0_0, .slice A0_1 l0_1.length c0_1] 47 (0, 0)) Z8_ hb); have n3_ := Aside0.mk (yai Z5_ hb); clear HO1004; clear HO1007; clear BK1001; clear HB; have HO1004 := n0_; have HO1007 := n1_; have BK1001 := n2_; have HB := n3_; clear n0_ n1_ n2_ n3_; (try clear hb); (try clear hb2); (try clear hk); (try clear hi); obtain ⟨Ao49, co49, eo49⟩ := Kd.ybc HO1007.out; subst eo49; obtain ⟨Ao50, co50, eo50⟩ := Kd.ybc HO1004.out; subst eo50; have p1010 : 0 ≤ (0 : Int) := (by omega); have q1010 : 0 < (t1002.length : Int) := of_decide_eq_true Z26_; obtain ⟨ad1010, e1010, hx1010_0⟩ := Kd.ybs (Kd.R_reads' HO1004.out).2.2 0 p1010 q1010; cases e1010; have qi1010 : (0 < t1002.length) = True := eq_true (by omega); (try rw [show ((0 : Int)).toNat = 0 from rfl] at hx1010_0); (try rw [Addr.add_zero'] at hx1010_0); replace p1010 := eq_true p1010; replace q1010 := eq_true q1010) | (go_at_call 51; (with_reducible refine (yat.calls k 3 t1011 _ A11.out).mono ?_); rintro e w51 ⟨v1012, rfl, ho0, hb⟩; have n0_ := Aside0.mk (Kd.R_elder' Z16_ (Kd.ycf ho0) hb); have n1_ := Aside0.mk (Kd.R_elder' Z17_ (Kd.ycf ho0) hb); have n2_ := Aside0.mk (Kd.ybl (Kd.R_new' (Kd.R_new' ho0 (Kd.R_lt Z16_)) (Kd.R_lt Z17_)) (yaj Z5_)); have n3_ := Aside0.mk (ybq (g := gb1001) (o := .cells #[.slice A0_0 l0_0.length c0_0, .slice A0_1 l0_1.length c0_1] 47 (0, 0)) Z8_ hb); have n4_ := Aside0.mk (yai Z5_ hb); clear HO1004; clear HO1007; clear BK1001; clear HB; have HO1004 := n0_; have HO1007 := n1_; have HO1013 := n2_; have BK1001 := n3_; have HB := n4_; clear n0_ n1_ n2_ n3_ n4_; (try clear hb); (try clear hb2); (try clear hk); (try clear hi); (try clear ho0); obtain ⟨Ao52, co52, eo52⟩ := Kd.ybc HO1013.out; subst eo52) | (go_at_call 63; (with_reducible refine (yas.calls k _ _ t1005 _ _ t1011 t1014 _ ?side1 ?side2 ?side3 ?side4 A12.out).mono ?_); (case side1 => repeat (first | exact (Kd.R_reads' HO1007.out).2.2 | (with_reducible refine Kd.yau ?_ _) | (with_reducible refine Kd.yaw ?_ _) | (with_reducible refine Kd.ybe ?_))); (case side2 => exact (Kd.R_reads' HO1007.out).2.1); (case side3 => repeat (first | exact (Kd.R_reads' HO1013.out).2.2 | (with_reducible refine Kd.yau ?_ _) | (with_reducible refine Kd.yaw ?_ _) | (with_reducible refine Kd.ybe ?_))); (case side4 => exact (Kd.R_reads' HO1013.out).2.1); rintro e w' ⟨rfl, ⟨nd, rfl⟩⟩))
             go_ret
             exact ⟨by first | rfl | (simp [yap, yao] <;> rfl) | (simp [*, yap, yao] <;> rfl), by repeat (first | (with_reducible first | exact HB.out | apply yad | apply yab | apply yac | refine ybx ?_ GE1001.out) | exact HB.out)⟩
         · rw [if_neg c10] at H
           have c10b0 : ((Int.tmod (rd t1002 0) 2) == 1) = false := beq_eq_false_iff_ne.mpr c10
           have c10b1 : ((Int.tmod (rd t1002 0) 2) != 1) = true := bne_iff_ne.mpr c10
           obtain rfl := Option.some.inj H
           go_enter Try.func27, Try.ntmps27
           try go_wp2_with (first | ((with_reducible refine ybu (N := 1) rfl ?_); (try (refine ydn (by rfl) ?_; dsimp only)); refine ydl ?hg (N := 1) ?hd (cs := #[.slice A0_0 l0_0.length c0_0, .slice A0_1 l0_1.length c0_1]) (t := 47) ?hr ?_; (case hd => rfl); (case hg => rfl); (case hr => first | (go_simp; done) | (go_simp; rfl)); intro gb1001 hg w53 hbox hb; have n0_ := Aside0.mk (yai Z7_ hb); have n1_ := Aside0.mk (hbox); have n2_ := Aside0.mk ((by rw [hg]; exact (yaj Z7_) : w.heap.size ≤ gb1001)); have n3_ := Aside0.mk ((by rw [hg]; exact (yaj Z7_) : w.heap.size ≤ gb1001)); clear HB; have HB := n0_; have BK1001 := n1_; have GW1001 := n2_; have GE1001 := n3_; clear n0_ n1_ n2_ n3_; clear hb hbox hg))
           have n0_ := Aside0.mk (yeg BK1001.out)
           have n1_ := Aside0.mk (yac HB.out)
           clear BK1001
           clear HB
           have BK1001 := n0_
           have HB := n1_
           clear n0_ n1_
           refine yeq (n := 8) (S := fun w' => w'.cell? ⟨gb1001, 0, none⟩ = some (.slice A0_0 l0_0.length c0_0) ∧ w'.cell? ⟨gb1001, 1, none⟩ = some (.slice A0_1 l0_1.length c0_1)) (ds := []) Q0_ (by kernel_rfl) rfl rfl ⟨(yaa BK1001.out 0).trans rfl, (yaa BK1001.out 1).trans rfl⟩ (fun hHeld => ?_); refine yde ybf.tab1 ybf.bits1 (fun HT_ HW_ => ?_)
           generalize w53.drew = w54 at BK1001 HB hHeld ⊢
           refine pV 0 5 Q1_ (yae HT_.out (by kernel_rfl)) ?_
           refine pV 3 8 Q2_ (yae HT_.out (by kernel_rfl)) ?_
           refine pT2 1 6 Q3_ (ycd HT_.out HW_.out (by kernel_rfl)) hHeld ?_
           refine pT2 4 9 Q4_ (ycd HT_.out HW_.out (by kernel_rfl)) hHeld ?_
           refine one_ (i := 2) (N := some 7) Q5_ rfl rfl (ydr HT_.out (by kernel_rfl)) (by decide) (fun K hK => ?_)
           refine yfa Try.func12 (by kernel_rfl) rfl #[.slice A0_0 l0_0.length c0_0] (by rfl) rfl rfl Z6_ ?_
           with_reducible refine (yah.calls k _ _ l0_0 t1002 _ ?side1 ?side2 A2.out).mono ?_
           (case side1 => repeat (first | exact (Kd.ybg HR0_0.out HB.out) | (with_reducible refine Kd.yau ?_ _) | (with_reducible refine Kd.yaw ?_ _) | (with_reducible refine Kd.ybe ?_)))
           (case side2 => exact HC0_0.out)
           rintro e w55 ⟨v1003, rfl, ho0, hb⟩
           refine ⟨_, rfl, ?_⟩
           have n0_ := Aside0.mk (Kd.ybl ho0 (yaj Z5_))
           have n1_ := Aside0.mk (ybq (g := gb1001) (o := .cells #[.slice A0_0 l0_0.length c0_0, .slice A0_1 l0_1.length c0_1] 47 (0, 0)) Z8_ hb)
           have n2_ := Aside0.mk (yai Z5_ hb)
           clear BK1001
           clear HB
           have HO1004 := n0_
           have BK1001 := n1_
           have HB := n2_
           clear n0_ n1_ n2_
           (try clear hb)
           (try clear hb2)
           (try clear hk)
           (try clear hi)
           (try clear ho0)
           refine hK.out _ _ ⟨(yaa BK1001.out 0).trans rfl, (yaa BK1001.out 1).trans rfl⟩ (fun hHeld => ?_)
           clear hK K
           refine pN 7 ?_
           refine one_ (i := 5) (N := some 10) Q6_ rfl rfl (ydr HT_.out (by kernel_rfl)) (by decide) (fun K hK => ?_)
           refine yfa Try.func12 (by kernel_rfl) rfl #[.slice A0_1 l0_1.length c0_1] (by rfl) rfl rfl Z6_ ?_
           with_reducible refine (yah.calls k _ _ l0_1 t1005 _ ?side1 ?side2 A3.out).mono ?_
           (case side1 => repeat (first | exact (Kd.ybg HR0_1.out HB.out) | (with_reducible refine Kd.yau ?_ _) | (with_reducible refine Kd.yaw ?_ _) | (with_reducible refine Kd.ybe ?_)))
           (case side2 => exact HC0_1.out)
           rintro e w56 ⟨v1006, rfl, ho0, hb⟩
           refine ⟨_, rfl, ?_⟩
           have n0_ := Aside0.mk (Kd.R_elder' Z16_ (Kd.ycf ho0) hb)
           have n1_ := Aside0.mk (Kd.ybl (Kd.R_new' ho0 (Kd.R_lt Z16_)) (yaj Z5_))
           have n2_ := Aside0.mk (ybq (g := gb1001) (o := .cells #[.slice A0_0 l0_0.length c0_0, .slice A0_1 l0_1.length c0_1] 47 (0, 0)) Z8_ hb)
           have n3_ := Aside0.mk (yai Z5_ hb)
           clear HO1004
           clear BK1001
           clear HB
           have HO1004 := n0_
           have HO1007 := n1_
           have BK1001 := n2_
           have HB := n3_
           clear n0_ n1_ n2_ n3_
           (try clear hb)
           (try clear hb2)
           (try clear hk)
           (try clear hi)
           (try clear ho0)
           refine hK.out _ _ ⟨(yaa BK1001.out 0).trans rfl, (yaa BK1001.out 1).trans rfl⟩ (fun hHeld => ?_)
           clear hK K
           refine pN 10 ?_
           refine pV 6 3 Q7_ (yae HT_.out (by kernel_rfl)) ?_
           refine pV 7 4 Q8_ (yae HT_.out (by kernel_rfl)) ?_
           refine yfk (ydx HT_.out (by kernel_rfl)) ?_
           have hcz57_0 : w56.cell? ⟨gb1001, 0, none⟩ = some (.slice A0_0 l0_0.length c0_0) := (yaa BK1001.out 0).trans rfl
           have hcz57_1 : w56.cell? ⟨gb1001, 1, none⟩ = some (.slice A0_1 l0_1.length c0_1) := (yaa BK1001.out 1).trans rfl
           have hfz57_0 := ybo BK1001.out 0
           have hfz57_1 := ybo BK1001.out 1
           try go_wp2_with (first | ((with_reducible refine yar (f := 29) rfl ?_); refine yce (some 12) rfl rfl Try.func29 (by kernel_rfl) rfl #[.agg #[.slice A0_0 l0_0.length c0_0, .slice A0_1 l0_1.length c0_1]] rfl Z6_ ?_; (with_reducible refine (ybd.calls k _ _ l0_0 _ _ l0_1 t1008 _ ?side1 ?side2 ?side3 ?side4 A4.out).mono ?_); (case side1 => repeat (first | exact (Kd.ybg HR0_0.out HB.out) | (with_reducible refine Kd.yau ?_ _) | (with_reducible refine Kd.yaw ?_ _) | (with_reducible refine Kd.ybe ?_))); (case side2 => exact HC0_0.out); (case side3 => repeat (first | exact (Kd.ybg HR0_1.out HB.out) | (with_reducible refine Kd.yau ?_ _) | (with_reducible refine Kd.yaw ?_ _) | (with_reducible refine Kd.ybe ?_))); (case side4 => exact HC0_1.out); rintro e w58 ⟨rfl, hb⟩; refine ⟨_, rfl, ?_⟩; have n0_ := Aside0.mk (Kd.ycc Z16_ hb); have n1_ := Aside0.mk (Kd.ycc Z17_ hb); have n2_ := Aside0.mk (ybq (g := gb1001) (o := .cells #[.slice A0_0 l0_0.length c0_0, .slice A0_1 l0_1.length c0_1] 47 (0, 0)) Z8_ hb); have n3_ := Aside0.mk (yai Z5_ hb); clear HO1004; clear HO1007; clear BK1001; clear HB; have HO1004 := n0_; have HO1007 := n1_; have BK1001 := n2_; have HB := n3_; clear n0_ n1_ n2_ n3_; (try clear hb); (try clear hb2); (try clear hk); (try clear hi); have hcz59_0 : w58.cell? ⟨gb1001, 0, none⟩ = some (.slice A0_0 l0_0.length c0_0) := (yaa BK1001.out 0).trans rfl; have hcz59_1 : w58.cell? ⟨gb1001, 1, none⟩ = some (.slice A0_1 l0_1.length c0_1) := (yaa BK1001.out 1).trans rfl; have hfz59_0 := ybo BK1001.out 0; have hfz59_1 := ybo BK1001.out 1) | (go_at_call 29; (with_reducible refine (ybd.calls k _ _ l0_0 _ _ l0_1 t1009 _ ?side1 ?side2 ?side3 ?side4 A6.out).mono ?_); (case side1 => repeat (first | exact (Kd.ybg HR0_0.out HB.out) | (with_reducible refine Kd.yau ?_ _) | (with_reducible refine Kd.yaw ?_ _) | (with_reducible refine Kd.ybe ?_))); (case side2 => exact HC0_0.out); (case side3 => repeat (first | exact (Kd.ybg HR0_1.out HB.out) | (with_reducible refine Kd.yau ?_ _) | (with_reducible refine Kd.yaw ?_ _) | (with_reducible refine Kd.ybe ?_))); (case side4 => exact HC0_1.out); rintro e w60 ⟨rfl, hb⟩; have n0_ := Aside0.mk (Kd.ycc Z16_ hb); have n1_ := Aside0.mk (Kd.ycc Z17_ hb); have n2_ := Aside0.mk (ybq (g := gb1001) (o := .cells #[.slice A0_0 l0_0.length c0_0, .slice A0_1 l0_1.length c0_1] 47 (0, 0)) Z8_ hb); have n3_ := Aside0.mk (yai Z5_ hb); clear HO1004; clear HO1007; clear BK1001; clear HB; have HO1004 := n0_; have HO1007 := n1_; have BK1001 := n2_; have HB := n3_; clear n0_ n1_ n2_ n3_; (try clear hb); (try clear hb2); (try clear hk); (try clear hi); obtain ⟨Ao61, co61, eo61⟩ := Kd.ybc HO1007.out; subst eo61; obtain ⟨Ao62, co62, eo62⟩ := Kd.ybc HO1004.out; subst eo62; have p1010 : 0 ≤ (0 : Int) := (by omega); have q1010 : 0 < (t1002.length : Int) := of_decide_eq_true Z26_; obtain ⟨ad1010, e1010, hx1010_0⟩ := Kd.ybs (Kd.R_reads' HO1004.out).2.2 0 p1010 q1010; cases e1010; have qi1010 : (0 < t1002.length) = True := eq_true (by omega); (try rw [show ((0 : Int)).toNat = 0 from rfl] at hx1010_0); (try rw [Addr.add_zero'] at hx1010_0); replace p1010 := eq_true p1010; replace q1010 := eq_true q1010))
           go_ret
           exact ⟨by first | rfl | (simp [yap, yao] <;> rfl) | (simp [*, yap, yao] <;> rfl), by repeat (first | (with_reducible first | exact HB.out | apply yad | apply yab | apply yac | refine ybx ?_ GE1001.out) | exact HB.out)⟩
       · rw [if_neg c9] at H
         exact absurd H (by simp)
     · rw [if_neg c8] at H
       have c8b0 : decide (0 < (t1005.length : Int)) = false := decide_eq_false c8
       have c8b1 : decide (0 < t1005.length) = false := decide_eq_false (by omega)
       clear c8
       obtain rfl := Option.some.inj H
       go_enter Try.func27, Try.ntmps27
       try go_wp2_with (first | ((with_reducible refine ybu (N := 1) rfl ?_); (try (refine ydn (by rfl) ?_; dsimp only)); refine ydl ?hg (N := 1) ?hd (cs := #[.slice A0_0 l0_0.length c0_0, .slice A0_1 l0_1.length c0_1]) (t := 47) ?hr ?_; (case hd => rfl); (case hg => rfl); (case hr => first | (go_simp; done) | (go_simp; rfl)); intro gb1001 hg w63 hbox hb; have n0_ := Aside0.mk (yai Z7_ hb); have n1_ := Aside0.mk (hbox); have n2_ := Aside0.mk ((by rw [hg]; exact (yaj Z7_) : w.heap.size ≤ gb1001)); have n3_ := Aside0.mk ((by rw [hg]; exact (yaj Z7_) : w.heap.size ≤ gb1001)); clear HB; have HB := n0_; have BK1001 := n1_; have GW1001 := n2_; have GE1001 := n3_; clear n0_ n1_ n2_ n3_; clear hb hbox hg))
       have n0_ := Aside0.mk (yeg BK1001.out)
       have n1_ := Aside0.mk (yac HB.out)
       clear BK1001
       clear HB
       have BK1001 := n0_
       have HB := n1_
       clear n0_ n1_
       refine yeq (n := 8) (S := fun w' => w'.cell? ⟨gb1001, 0, none⟩ = some (.slice A0_0 l0_0.length c0_0) ∧ w'.cell? ⟨gb1001, 1, none⟩ = some (.slice A0_1 l0_1.length c0_1)) (ds := []) Q0_ (by kernel_rfl) rfl rfl ⟨(yaa BK1001.out 0).trans rfl, (yaa BK1001.out 1).trans rfl⟩ (fun hHeld => ?_); refine yde ybf.tab1 ybf.bits1 (fun HT_ HW_ => ?_)
       generalize w63.drew = w64 at BK1001 HB hHeld ⊢
       refine pV 0 5 Q1_ (yae HT_.out (by kernel_rfl)) ?_
       refine pV 3 8 Q2_ (yae HT_.out (by kernel_rfl)) ?_
       refine pT2 1 6 Q3_ (ycd HT_.out HW_.out (by kernel_rfl)) hHeld ?_
       refine pT2 4 9 Q4_ (ycd HT_.out HW_.out (by kernel_rfl)) hHeld ?_
       refine one_ (i := 2) (N := some 7) Q5_ rfl rfl (ydr HT_.out (by kernel_rfl)) (by decide) (fun K hK => ?_)
       refine yfa Try.func12 (by kernel_rfl) rfl #[.slice A0_0 l0_0.length c0_0] (by rfl) rfl rfl Z6_ ?_
       with_reducible refine (yah.calls k _ _ l0_0 t1002 _ ?side1 ?side2 A2.out).mono ?_
       (case side1 => repeat (first | exact (Kd.ybg HR0_0.out HB.out) | (with_reducible refine Kd.yau ?_ _) | (with_reducible refine Kd.yaw ?_ _) | (with_reducible refine Kd.ybe ?_)))
       (case side2 => exact HC0_0.out)
       rintro e w65 ⟨v1003, rfl, ho0, hb⟩
       refine ⟨_, rfl, ?_⟩
       have n0_ := Aside0.mk (Kd.ybl ho0 (yaj Z5_))
       have n1_ := Aside0.mk (ybq (g := gb1001) (o := .cells #[.slice A0_0 l0_0.length c0_0, .slice A0_1 l0_1.length c0_1] 47 (0, 0)) Z8_ hb)
       have n2_ := Aside0.mk (yai Z5_ hb)
       clear BK1001
       clear HB
       have HO1004 := n0_
       have BK1001 := n1_
       have HB := n2_
       clear n0_ n1_ n2_
       (try clear hb)
       (try clear hb2)
       (try clear hk)
       (try clear hi)
       (try clear ho0)
       refine hK.out _ _ ⟨(yaa BK1001.out 0).trans rfl, (yaa BK1001.out 1).trans rfl⟩ (fun hHeld => ?_)
       clear hK K
       refine pN 7 ?_
       refine one_ (i := 5) (N := some 10) Q6_ rfl rfl (ydr HT_.out (by kernel_rfl)) (by decide) (fun K hK => ?_)
       refine yfa Try.func12 (by kernel_rfl) rfl #[.slice A0_1 l0_1.length c0_1] (by rfl) rfl rfl Z6_ ?_
       with_reducible refine (yah.calls k _ _ l0_1 t1005 _ ?side1 ?side2 A3.out).mono ?_
       (case side1 => repeat (first | exact (Kd.ybg HR0_1.out HB.out) | (with_reducible refine Kd.yau ?_ _) | (with_reducible refine Kd.yaw ?_ _) | (with_reducible refine Kd.ybe ?_)))
       (case side2 => exact HC0_1.out)
       rintro e w66 ⟨v1006, rfl, ho0, hb⟩
       refine ⟨_, rfl, ?_⟩
       have n0_ := Aside0.mk (Kd.R_elder' Z16_ (Kd.ycf ho0) hb)
       have n1_ := Aside0.mk (Kd.ybl (Kd.R_new' ho0 (Kd.R_lt Z16_)) (yaj Z5_))
       have n2_ := Aside0.mk (ybq (g := gb1001) (o := .cells #[.slice A0_0 l0_0.length c0_0, .slice A0_1 l0_1.length c0_1] 47 (0, 0)) Z8_ hb)
       have n3_ := Aside0.mk (yai Z5_ hb)
       clear HO1004
       clear BK1001
       clear HB
       have HO1004 := n0_
       have HO1007 := n1_
       have BK1001 := n2_
       have HB := n3_
       clear n0_ n1_ n2_ n3_
       (try clear hb)
       (try clear hb2)
       (try clear hk)
       (try clear hi)
       (try clear ho0)
       refine hK.out _ _ ⟨(yaa BK1001.out 0).trans rfl, (yaa BK1001.out 1).trans rfl⟩ (fun hHeld => ?_)
       clear hK K
       refine pN 10 ?_
       refine pV 6 3 Q7_ (yae HT_.out (by kernel_rfl)) ?_
       refine pV 7 4 Q8_ (yae HT_.out (by kernel_rfl)) ?_
       refine yfk (ydx HT_.out (by kernel_rfl)) ?_
       have hcz67_0 : w66.cell? ⟨gb1001, 0, none⟩ = some (.slice A0_0 l0_0.length c0_0) := (yaa BK1001.out 0).trans rfl
       have hcz67_1 : w66.cell? ⟨gb1001, 1, none⟩ = some (.slice A0_1 l0_1.length c0_1) := (yaa BK1001.out 1).trans rfl
       have hfz67_0 := ybo BK1001.out 0
       have hfz67_1 := ybo BK1001.out 1
       try go_wp2_with (first | ((with_reducible refine yar (f := 29) rfl ?_); refine yce (some 12) rfl rfl Try.func29 (by kernel_rfl) rfl #[.agg #[.slice A0_0 l0_0.length c0_0, .slice A0_1 l0_1.length c0_1]] rfl Z6_ ?_; (with_reducible refine (ybd.calls k _ _ l0_0 _ _ l0_1 t1008 _ ?side1 ?side2 ?side3 ?side4 A4.out).mono ?_); (case side1 => repeat (first | exact (Kd.ybg HR0_0.out HB.out) | (with_reducible refine Kd.yau ?_ _) | (with_reducible refine Kd.yaw ?_ _) | (with_reducible refine Kd.ybe ?_))); (case side2 => exact HC0_0.out); (case side3 => repeat (first | exact (Kd.ybg HR0_1.out HB.out) | (with_reducible refine Kd.yau ?_ _) | (with_reducible refine Kd.yaw ?_ _) | (with_reducible refine Kd.ybe ?_))); (case side4 => exact HC0_1.out); rintro e w68 ⟨rfl, hb⟩; refine ⟨_, rfl, ?_⟩; have n0_ := Aside0.mk (Kd.ycc Z16_ hb); have n1_ := Aside0.mk (Kd.ycc Z17_ hb); have n2_ := Aside0.mk (ybq (g := gb1001) (o := .cells #[.slice A0_0 l0_0.length c0_0, .slice A0_1 l0_1.length c0_1] 47 (0, 0)) Z8_ hb); have n3_ := Aside0.mk (yai Z5_ hb); clear HO1004; clear HO1007; clear BK1001; clear HB; have HO1004 := n0_; have HO1007 := n1_; have BK1001 := n2_; have HB := n3_; clear n0_ n1_ n2_ n3_; (try clear hb); (try clear hb2); (try clear hk); (try clear hi); have hcz69_0 : w68.cell? ⟨gb1001, 0, none⟩ = some (.slice A0_0 l0_0.length c0_0) := (yaa BK1001.out 0).trans rfl; have hcz69_1 : w68.cell? ⟨gb1001, 1, none⟩ = some (.slice A0_1 l0_1.length c0_1) := (yaa BK1001.out 1).trans rfl; have hfz69_0 := ybo BK1001.out 0; have hfz69_1 := ybo BK1001.out 1) | (go_at_call 29; (with_reducible refine (ybd.calls k _ _ l0_0 _ _ l0_1 t1009 _ ?side1 ?side2 ?side3 ?side4 A6.out).mono ?_); (case side1 => repeat (first | exact (Kd.ybg HR0_0.out HB.out) | (with_reducible refine Kd.yau ?_ _) | (with_reducible refine Kd.yaw ?_ _) | (with_reducible refine Kd.ybe ?_))); (case side2 => exact HC0_0.out); (case side3 => repeat (first | exact (Kd.ybg HR0_1.out HB.out) | (with_reducible refine Kd.yau ?_ _) | (with_reducible refine Kd.yaw ?_ _) | (with_reducible refine Kd.ybe ?_))); (case side4 => exact HC0_1.out); rintro e w70 ⟨rfl, hb⟩; have n0_ := Aside0.mk (Kd.ycc Z16_ hb); have n1_ := Aside0.mk (Kd.ycc Z17_ hb); have n2_ := Aside0.mk (ybq (g := gb1001) (o := .cells #[.slice A0_0 l0_0.length c0_0, .slice A0_1 l0_1.length c0_1] 47 (0, 0)) Z8_ hb); have n3_ := Aside0.mk (yai Z5_ hb); clear HO1004; clear HO1007; clear BK1001; clear HB; have HO1004 := n0_; have HO1007 := n1_; have BK1001 := n2_; have HB := n3_; clear n0_ n1_ n2_ n3_; (try clear hb); (try clear hb2); (try clear hk); (try clear hi); obtain ⟨Ao71, co71, eo71⟩ := Kd.ybc HO1007.out; subst eo71))
       go_ret
       exact ⟨by first | rfl | (simp [yap, yao] <;> rfl) | (simp [*, yap, yao] <;> rfl), by repeat (first | (with_reducible first | exact HB.out | apply yad | apply yab | apply yac | refine ybx ?_ GE1001.out) | exact HB.out)⟩
   · rw [if_neg c7] at H
     have c7b0 : decide (t1009 ≤ 256) = false := decide_eq_false c7
     clear c7
     obtain rfl := Option.some.inj H
     go_enter Try.func27, Try.ntmps27
     try go_wp2_with (first | ((with_reducible refine ybu (N := 1) rfl ?_); (try (refine ydn (by rfl) ?_; dsimp only)); refine ydl ?hg (N := 1) ?hd (cs := #[.slice A0_0 l0_0.length c0_0, .slice A0_1 l0_1.length c0_1]) (t := 47) ?hr ?_; (case hd => rfl); (case hg => rfl); (case hr => first | (go_simp; done) | (go_simp; rfl)); intro gb1001 hg w72 hbox hb; have n0_ := Aside0.mk (yai Z7_ hb); have n1_ := Aside0.mk (hbox); have n2_ := Aside0.mk ((by rw [hg]; exact (yaj Z7_) : w.heap.size ≤ gb1001)); have n3_ := Aside0.mk ((by rw [hg]; exact (yaj Z7_) : w.heap.size ≤ gb1001)); clear HB; have HB := n0_; have BK1001 := n1_; have GW1001 := n2_; have GE1001 := n3_; clear n0_ n1_ n2_ n3_; clear hb hbox hg))
     have n0_ := Aside0.mk (yeg BK1001.out)
     have n1_ := Aside0.mk (yac HB.out)
     clear BK1001
     clear HB
     have BK1001 := n0_
     have HB := n1_
     clear n0_ n1_
     refine yeq (n := 8) (S := fun w' => w'.cell? ⟨gb1001, 0, none⟩ = some (.slice A0_0 l0_0.length c0_0) ∧ w'.cell? ⟨gb1001, 1, none⟩ = some (.slice A0_1 l0_1.length c0_1)) (ds := []) Q0_ (by kernel_rfl) rfl rfl ⟨(yaa BK1001.out 0).trans rfl, (yaa BK1001.out 1).trans rfl⟩ (fun hHeld => ?_); refine yde ybf.tab1 ybf.bits1 (fun HT_ HW_ => ?_)
     generalize w72.drew = w73 at BK1001 HB hHeld ⊢
     refine pV 0 5 Q1_ (yae HT_.out (by kernel_rfl)) ?_
     refine pV 3 8 Q2_ (yae HT_.out (by kernel_rfl)) ?_
     refine pT2 1 6 Q3_ (ycd HT_.out HW_.out (by kernel_rfl)) hHeld ?_
     refine pT2 4 9 Q4_ (ycd HT_.out HW_.out (by kernel_rfl)) hHeld ?_
     refine one_ (i := 2) (N := some 7) Q5_ rfl rfl (ydr HT_.out (by kernel_rfl)) (by decide) (fun K hK => ?_)
     refine yfa Try.func12 (by kernel_rfl) rfl #[.slice A0_0 l0_0.length c0_0] (by rfl) rfl rfl Z6_ ?_
     with_reducible refine (yah.calls k _ _ l0_0 t1002 _ ?side1 ?side2 A2.out).mono ?_
     (case side1 => repeat (first | exact (Kd.ybg HR0_0.out HB.out) | (with_reducible refine Kd.yau ?_ _) | (with_reducible refine Kd.yaw ?_ _) | (with_reducible refine Kd.ybe ?_)))
     (case side2 => exact HC0_0.out)
     rintro e w74 ⟨v1003, rfl, ho0, hb⟩
     refine ⟨_, rfl, ?_⟩
     have n0_ := Aside0.mk (Kd.ybl ho0 (yaj Z5_))
     have n1_ := Aside0.mk (ybq (g := gb1001) (o := .cells #[.slice A0_0 l0_0.length c0_0, .slice A0_1 l0_1.length c0_1] 47 (0, 0)) Z8_ hb)
     have n2_ := Aside0.mk (yai Z5_ hb)
     clear BK1001
     clear HB
     have HO1004 := n0_
     have BK1001 := n1_
     have HB := n2_
     clear n0_ n1_ n2_
     (try clear hb)
     (try clear hb2)
     (try clear hk)
     (try clear hi)
     (try clear ho0)
     refine hK.out _ _ ⟨(yaa BK1001.out 0).trans rfl, (yaa BK1001.out 1).trans rfl⟩ (fun hHeld => ?_)
     clear hK K
     refine pN 7 ?_
     refine one_ (i := 5) (N := some 10) Q6_ rfl rfl (ydr HT_.out (by kernel_rfl)) (by decide) (fun K hK => ?_)
     refine yfa Try.func12 (by kernel_rfl) rfl #[.slice A0_1 l0_1.length c0_1] (by rfl) rfl rfl Z6_ ?_
     with_reducible refine (yah.calls k _ _ l0_1 t1005 _ ?side1 ?side2 A3.out).mono ?_
     (case side1 => repeat (first | exact (Kd.ybg HR0_1.out HB.out) | (with_reducible refine Kd.yau ?_ _) | (with_reducible refine Kd.yaw ?_ _) | (with_reducible refine Kd.ybe ?_)))
     (case side2 => exact HC0_1.out)
     rintro e w75 ⟨v1006, rfl, ho0, hb⟩
     refine ⟨_, rfl, ?_⟩
     have n0_ := Aside0.mk (Kd.R_elder' Z16_ (Kd.ycf ho0) hb)
     have n1_ := Aside0.mk (Kd.ybl (Kd.R_new' ho0 (Kd.R_lt Z16_)) (yaj Z5_))
     have n2_ := Aside0.mk (ybq (g := gb1001) (o := .cells #[.slice A0_0 l0_0.length c0_0, .slice A0_1 l0_1.length c0_1] 47 (0, 0)) Z8_ hb)
     have n3_ := Aside0.mk (yai Z5_ hb)
     clear HO1004
     clear BK1001
     clear HB
     have HO1004 := n0_
     have HO1007 := n1_
     have BK1001 := n2_
     have HB := n3_
     clear n0_ n1_ n2_ n3_
     (try clear hb)
     (try clear hb2)
     (try clear hk)
     (try clear hi)
     (try clear ho0)
     refine hK.out _ _ ⟨(yaa BK1001.out 0).trans rfl, (yaa BK1001.out 1).trans rfl⟩ (fun hHeld => ?_)
     clear hK K
     refine pN 10 ?_
     refine pV 6 3 Q7_ (yae HT_.out (by kernel_rfl)) ?_
     refine pV 7 4 Q8_ (yae HT_.out (by kernel_rfl)) ?_
     refine yfk (ydx HT_.out (by kernel_rfl)) ?_
     have hcz76_0 : w75.cell? ⟨gb1001, 0, none⟩ = some (.slice A0_0 l0_0.length c0_0) := (yaa BK1001.out 0).trans rfl
     have hcz76_1 : w75.cell? ⟨gb1001, 1, none⟩ = some (.slice A0_1 l0_1.length c0_1) := (yaa BK1001.out 1).trans rfl
     have hfz76_0 := ybo BK1001.out 0
     have hfz76_1 := ybo BK1001.out 1
     try go_wp2_with (first | ((with_reducible refine yar (f := 29) rfl ?_); refine yce (some 12) rfl rfl Try.func29 (by kernel_rfl) rfl #[.agg #[.slice A0_0 l0_0.length c0_0, .slice A0_1 l0_1.length c0_1]] rfl Z6_ ?_; (with_reducible refine (ybd.calls k _ _ l0_0 _ _ l0_1 t1008 _ ?side1 ?side2 ?side3 ?side4 A4.out).mono ?_); (case side1 => repeat (first | exact (Kd.ybg HR0_0.out HB.out) | (with_reducible refine Kd.yau ?_ _) | (with_reducible refine Kd.yaw ?_ _) | (with_reducible refine Kd.ybe ?_))); (case side2 => exact HC0_0.out); (case side3 => repeat (first | exact (Kd.ybg HR0_1.out HB.out) | (with_reducible refine Kd.yau ?_ _) | (with_reducible refine Kd.yaw ?_ _) | (with_reducible refine Kd.ybe ?_))); (case side4 => exact HC0_1.out); rintro e w77 ⟨rfl, hb⟩; refine ⟨_, rfl, ?_⟩; have n0_ := Aside0.mk (Kd.ycc Z16_ hb); have n1_ := Aside0.mk (Kd.ycc Z17_ hb); have n2_ := Aside0.mk (ybq (g := gb1001) (o := .cells #[.slice A0_0 l0_0.length c0_0, .slice A0_1 l0_1.length c0_1] 47 (0, 0)) Z8_ hb); have n3_ := Aside0.mk (yai Z5_ hb); clear HO1004; clear HO1007; clear BK1001; clear HB; have HO1004 := n0_; have HO1007 := n1_; have BK1001 := n2_; have HB := n3_; clear n0_ n1_ n2_ n3_; (try clear hb); (try clear hb2); (try clear hk); (try clear hi); have hcz78_0 : w77.cell? ⟨gb1001, 0, none⟩ = some (.slice A0_0 l0_0.length c0_0) := (yaa BK1001.out 0).trans rfl; have hcz78_1 : w77.cell? ⟨gb1001, 1, none⟩ = some (.slice A0_1 l0_1.length c0_1) := (yaa BK1001.out 1).trans rfl; have hfz78_0 := ybo BK1001.out 0; have hfz78_1 := ybo BK1001.out 1) | (go_at_call 29; (with_reducible refine (ybd.calls k _ _ l0_0 _ _ l0_1 t1009 _ ?side1 ?side2 ?side3 ?side4 A6.out).mono ?_); (case side1 => repeat (first | exact (Kd.ybg HR0_0.out HB.out) | (with_reducible refine Kd.yau ?_ _) | (with_reducible refine Kd.yaw ?_ _) | (with_reducible refine Kd.ybe ?_))); (case side2 => exact HC0_0.out); (case side3 => repeat (first | exact (Kd.ybg HR0_1.out HB.out) | (with_reducible refine Kd.yau ?_ _) | (with_reducible refine Kd.yaw ?_ _) | (with_reducible refine Kd.ybe ?_))); (case side4 => exact HC0_1.out); rintro e w79 ⟨rfl, hb⟩; have n0_ := Aside0.mk (Kd.ycc Z16_ hb); have n1_ := Aside0.mk (Kd.ycc Z17_ hb); have n2_ := Aside0.mk (ybq (g := gb1001) (o := .cells #[.slice A0_0 l0_0.length c0_0, .slice A0_1 l0_1.length c0_1] 47 (0, 0)) Z8_ hb); have n3_ := Aside0.mk (yai Z5_ hb); clear HO1004; clear HO1007; clear BK1001; clear HB; have HO1004 := n0_; have HO1007 := n1_; have BK1001 := n2_; have HB := n3_; clear n0_ n1_ n2_ n3_; (try clear hb); (try clear hb2); (try clear hk); (try clear hi)))
     go_ret
     exact ⟨by first | rfl | (simp [yap, yao] <;> rfl) | (simp [*, yap, yao] <;> rfl), by repeat (first | (with_reducible first | exact HB.out | apply yad | apply yab | apply yac | refine ybx ?_ GE1001.out) | exact HB.out)⟩
 · rw [if_neg c5] at H
   have c5b0 : decide (62 ≤ t1008) = false := decide_eq_false c5
   clear c5
   obtain rfl := Option.some.inj H
   go_enter Try.func27, Try.ntmps27
   try go_wp2_with (first | ((with_reducible refine ybu (N := 1) rfl ?_); (try (refine ydn (by rfl) ?_; dsimp only)); refine ydl ?hg (N := 1) ?hd (cs := #[.slice A0_0 l0_0.length c0_0, .slice A0_1 l0_1.length c0_1]) (t := 47) ?hr ?_; (case hd => rfl); (case hg => rfl); (case hr => first | (go_simp; done) | (go_simp; rfl)); intro gb1001 hg w80 hbox hb; have n0_ := Aside0.mk (yai Z7_ hb); have n1_ := Aside0.mk (hbox); have n2_ := Aside0.mk ((by rw [hg]; exact (yaj Z7_) : w.heap.size ≤ gb1001)); have n3_ := Aside0.mk ((by rw [hg]; exact (yaj Z7_) : w.heap.size ≤ gb1001)); clear HB; have HB := n0_; have BK1001 := n1_; have GW1001 := n2_; have GE1001 := n3_; clear n0_ n1_ n2_ n3_; clear hb hbox hg))
   have n0_ := Aside0.mk (yeg BK1001.out)
   have n1_ := Aside0.mk (yac HB.out)
   clear BK1001
   clear HB
   have BK1001 := n0_
   have HB := n1_
   clear n0_ n1_
   refine yeq (n := 8) (S := fun w' => w'.cell? ⟨gb1001, 0, none⟩ = some (.slice A0_0 l0_0.length c0_0) ∧ w'.cell? ⟨gb1001, 1, none⟩ = some (.slice A0_1 l0_1.length c0_1)) (ds := []) Q0_ (by kernel_rfl) rfl rfl ⟨(yaa BK1001.out 0).trans rfl, (yaa BK1001.out 1).trans rfl⟩ (fun hHeld => ?_); refine yde ybf.tab1 ybf.bits1 (fun HT_ HW_ => ?_)
   generalize w80.drew = w81 at BK1001 HB hHeld ⊢
   refine pV 0 5 Q1_ (yae HT_.out (by kernel_rfl)) ?_
   refine pV 3 8 Q2_ (yae HT_.out (by kernel_rfl)) ?_
   refine pT2 1 6 Q3_ (ycd HT_.out HW_.out (by kernel_rfl)) hHeld ?_
   refine pT2 4 9 Q4_ (ycd HT_.out HW_.out (by kernel_rfl)) hHeld ?_
   refine one_ (i := 2) (N := some 7) Q5_ rfl rfl (ydr HT_.out (by kernel_rfl)) (by decide) (fun K hK => ?_)
   refine yfa Try.func12 (by kernel_rfl) rfl #[.slice A0_0 l0_0.length c0_0] (by rfl) rfl rfl Z6_ ?_
   with_reducible refine (yah.calls k _ _ l0_0 t1002 _ ?side1 ?side2 A2.out).mono ?_
   (case side1 => repeat (first | exact (Kd.ybg HR0_0.out HB.out) | (with_reducible refine Kd.yau ?_ _) | (with_reducible refine Kd.yaw ?_ _) | (with_reducible refine Kd.ybe ?_)))
   (case side2 => exact HC0_0.out)
   rintro e w82 ⟨v1003, rfl, ho0, hb⟩
   refine ⟨_, rfl, ?_⟩
   have n0_ := Aside0.mk (Kd.ybl ho0 (yaj Z5_))
   have n1_ := Aside0.mk (ybq (g := gb1001) (o := .cells #[.slice A0_0 l0_0.length c0_0, .slice A0_1 l0_1.length c0_1] 47 (0, 0)) Z8_ hb)
   have n2_ := Aside0.mk (yai Z5_ hb)
   clear BK1001
   clear HB
   have HO1004 := n0_
   have BK1001 := n1_
   have HB := n2_
   clear n0_ n1_ n2_
   (try clear hb)
   (try clear hb2)
   (try clear hk)
   (try clear hi)
   (try clear ho0)
   refine hK.out _ _ ⟨(yaa BK1001.out 0).trans rfl, (yaa BK1001.out 1).trans rfl⟩ (fun hHeld => ?_)
   clear hK K
   refine pN 7 ?_
   refine one_ (i := 5) (N := some 10) Q6_ rfl rfl (ydr HT_.out (by kernel_rfl)) (by decide) (fun K hK => ?_)
   refine yfa Try.func12 (by kernel_rfl) rfl #[.slice A0_1 l0_1.length c0_1] (by rfl) rfl rfl Z6_ ?_
   with_reducible refine (yah.calls k _ _ l0_1 t1005 _ ?side1 ?side2 A3.out).mono ?_
   (case side1 => repeat (first | exact (Kd.ybg HR0_1.out HB.out) | (with_reducible refine Kd.yau ?_ _) | (with_reducible refine Kd.yaw ?_ _) | (with_reducible refine Kd.ybe ?_)))
   (case side2 => exact HC0_1.out)
   rintro e w83 ⟨v1006, rfl, ho0, hb⟩
   refine ⟨_, rfl, ?_⟩
   have n0_ := Aside0.mk (Kd.R_elder' Z16_ (Kd.ycf ho0) hb)
   have n1_ := Aside0.mk (Kd.ybl (Kd.R_new' ho0 (Kd.R_lt Z16_)) (yaj Z5_))
   have n2_ := Aside0.mk (ybq (g := gb1001) (o := .cells #[.slice A0_0 l0_0.length c0_0, .slice A0_1 l0_1.length c0_1] 47 (0, 0)) Z8_ hb)
   have n3_ := Aside0.mk (yai Z5_ hb)
   clear HO1004
   clear BK1001
   clear HB
   have HO1004 := n0_
   have HO1007 := n1_
   have BK1001 := n2_
   have HB := n3_
   clear n0_ n1_ n2_ n3_
   (try clear hb)
   (try clear hb2)
   (try clear hk)
   (try clear hi)
   (try clear ho0)
   refine hK.out _ _ ⟨(yaa BK1001.out 0).trans rfl, (yaa BK1001.out 1).trans rfl⟩ (fun hHeld => ?_)
   clear hK K
   refine pN 10 ?_
   refine pV 6 3 Q7_ (yae HT_.out (by kernel_rfl)) ?_
   refine pV 7 4 Q8_ (yae HT_.out (by kernel_rfl)) ?_
   refine yfk (ydx HT_.out (by kernel_rfl)) ?_
   have hcz84_0 : w83.cell? ⟨gb1001, 0, none⟩ = some (.slice A0_0 l0_0.length c0_0) := (yaa BK1001.out 0).trans rfl
   have hcz84_1 : w83.cell? ⟨gb1001, 1, none⟩ = some (.slice A0_1 l0_1.length c0_1) := (yaa BK1001.out 1).trans rfl
   have hfz84_0 := ybo BK1001.out 0
   have hfz84_1 := ybo BK1001.out 1
   try go_wp2_with (first | ((with_reducible refine yar (f := 29) rfl ?_); refine yce (some 12) rfl rfl Try.func29 (by kernel_rfl) rfl #[.agg #[.slice A0_0 l0_0.length c0_0, .slice A0_1 l0_1.length c0_1]] rfl Z6_ ?_; (with_reducible refine (ybd.calls k _ _ l0_0 _ _ l0_1 t1008 _ ?side1 ?side2 ?side3 ?side4 A4.out).mono ?_); (case side1 => repeat (first | exact (Kd.ybg HR0_0.out HB.out) | (with_reducible refine Kd.yau ?_ _) | (with_reducible refine Kd.yaw ?_ _) | (with_reducible refine Kd.ybe ?_))); (case side2 => exact HC0_0.out); (case side3 => repeat (first | exact (Kd.ybg HR0_1.out HB.out) | (with_reducible refine Kd.yau ?_ _) | (with_reducible refine Kd.yaw ?_ _) | (with_reducible refine Kd.ybe ?_))); (case side4 => exact HC0_1.out); rintro e w85 ⟨rfl, hb⟩; refine ⟨_, rfl, ?_⟩; have n0_ := Aside0.mk (Kd.ycc Z16_ hb); have n1_ := Aside0.mk (Kd.ycc Z17_ hb); have n2_ := Aside0.mk (ybq (g := gb1001) (o := .cells #[.slice A0_0 l0_0.length c0_0, .slice A0_1 l0_1.length c0_1] 47 (0, 0)) Z8_ hb); have n3_ := Aside0.mk (yai Z5_ hb); clear HO1004; clear HO1007; clear BK1001; clear HB; have HO1004 := n0_; have HO1007 := n1_; have BK1001 := n2_; have HB := n3_; clear n0_ n1_ n2_ n3_; (try clear hb); (try clear hb2); (try clear hk); (try clear hi)))
   go_ret
   exact ⟨by first | rfl | (simp [yap, yao] <;> rfl) | (simp [*, yap, yao] <;> rfl), by repeat (first | (with_reducible first | exact HB.out | apply yad | apply yab | apply yac | refine ybx ?_ GE1001.out) | exact HB.out)⟩
end Go.Proofs.Ytgnaaaliadiekaa.B
end
