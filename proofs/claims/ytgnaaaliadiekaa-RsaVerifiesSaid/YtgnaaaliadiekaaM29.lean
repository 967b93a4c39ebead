/- A part of the proof (merged by pack.py, a program of this session: what the row's proof names). -/
import Derived.Test.YtgnaaaliadiekaaM4
import Derived.Test.YtgnaaaliadiekaaM11
import Derived.Test.YtgnaaaliadiekaaM14
import Derived.Test.YtgnaaaliadiekaaM28
import Derived.Test.YtgnaaaliadiekaaM0
section
namespace Go.Proofs.Ytgnaaaliadiekaa.B
open Go.RowKit Go.Proofs.YtgnaaaliadiekaaW.PrintWords Go.Proofs.YtgnaaaliadiekaaW.PrintLast Go.Proofs.YtgnaaaliadiekaaW.PrintMore
attribute [local go_sem] ycj ych ycs ycr ybw ybv yci ycg   -- for this text's walks alone
attribute [local go_sem] yca ybn ybz ybm
set_option linter.unusedVariables false
set_option linter.unusedSimpArgs false
def ycy.l0 : Nat → List Int → List Int → List Int → Int → Int → Option (List Int × List Int × Bool)
 | 0, _, _, _, _, _ => none
 | k + 1, x0, x1, x4, x8, x9 => if x9 ≥ 0 then (if 0 ≤ x9 then (if x9 < (x0.length : Int) then (if 0 < (x1.length : Int) then ((yay.f k x8 (rd x0 x9) (rd x1 0)).bind fun bt1013 => (if x9 < (x4.length : Int) then (ycy.l0 k x0 x1 (x4.set (x9 : Int).toNat bt1013.1) bt1013.2 (wrap64 (x9 - 1))) else (none))) else (none)) else (none)) else (none)) else ((ybr.f k x4).bind fun t1016 => ((yfi.f k x8).bind fun t1019 => (some (t1016, t1019, true))))
def ycy.f (k : Nat) (l0 : List Int) (l1 : List Int) : Option (List Int × List Int × Bool) := (ybr.f k l0).bind fun t1001 => ((ybr.f k l1).bind fun t1004 => (if (t1004.length : Int) = 0 then (some (([] : List Int), ([] : List Int), false)) else ((yco.f k t1001 t1004).bind fun t1007 => (if t1007 < 0 then (some (([] : List Int), t1001, true)) else (if (t1004.length : Int) = 1 then (if 0 ≤ (t1001.length : Int) then (if ((t1001.length : Int) : Int).toNat ≤ 35184372088832 then (ycy.l0 k t1001 t1004 (List.replicate ((t1001.length : Int) : Int).toNat 0) 0 (wrap64 ((t1001.length : Int) - 1))) else (none)) else (none)) else (if 0 ≤ (wrap64 ((t1004.length : Int) - 1)) then (if (wrap64 ((t1004.length : Int) - 1)) < (t1004.length : Int) then (none) else (none)) else (none)))))))
def ycy.T13 : Bool × List (List Nat × List Nat) := (true, [([], []), ([], []), ([], []), ([], []), ([], []), ([3, 4], [3, 4]), ([5], [5]), ([], []), ([7], [7]), ([8], [8]), ([2, 6, 9], [2, 6, 9]), ([10], [10]), ([11], [11]), ([11], [11]), ([0, 1, 0, 1, 2, 3, 4, 5, 6, 7, 8, 9, 10, 11, 12], [0, 1]), ([14, 12, 10, 0, 1, 2, 3, 4, 5, 6, 7, 8, 9, 10, 11, 12], [12, 14]), ([13, 15, 0, 1, 2, 3, 4, 5, 6, 7, 8, 9, 10, 11, 12, 13, 14, 15], [2, 13])])
def ycy.B13 : List Nat := [0, 0, 0, 0, 0, 24, 56, 0, 128, 384, 1020, 2044, 4092, 4092, 8191, 24575, 65535]
theorem ycy.tab13 : rtab .any (opsOf Try.f38 13) = ycy.T13 := by kernel_rfl
theorem ycy.bits13 : yfg ycy.T13.2 ycy.B13 = true := by kernel_rfl
set_option maxHeartbeats 8000000 in
set_option maxRecDepth 100000 in
theorem ycy.calls (k : Nat) (A0 : Option Addr) (c0 : Nat) (l0 : List Int) (A1 : Option Addr) (c1 : Nat) (l1 : List Int) (r1 : List Int) (r2 : List Int) (r3 : Bool) (w : World) (hr0 : Kd.C (Kd.int .u64) w A0 l0.length l0) (hc0 : l0.length ≤ c0) (hr1 : Kd.C (Kd.int .u64) w A1 l1.length l1) (hc1 : l1.length ≤ c1) (h : ycy.f k l0 l1 = some (r1, r2, r3)) :
 Calls Try.prog 38 #[.slice A0 l0.length c0, .slice A1 l1.length c1] w fun e w' => ∃ v0_ v1_ : Value, e = .returned (.tuple #[v0_, v1_, .bool r3]) ∧ Kd.R (Kd.int .u64) 61 w' w.heap.size (fun k_ => some k_ ≠ (v1_ : Value).ownBlock) v0_ r1 ∧ Kd.R (Kd.int .u64) 61 w' w.heap.size (fun k_ => some k_ ≠ (v0_ : Value).ownBlock) v1_ r2 ∧ Below w.heap.size w w' := by
 have HR0 := Aside0.mk hr0
 have HC0 := Aside0.mk hc0
 clear hr0 hc0
 have HR1 := Aside0.mk hr1
 have HC1 := Aside0.mk hc1
 clear hr1 hc1
 have HB := Aside0.mk (Below.refl w.heap.size w)
 have H : ((ybr.f k l0).bind fun t1001 => ((ybr.f k l1).bind fun t1004 => (if (t1004.length : Int) = 0 then (some (([] : List Int), ([] : List Int), false)) else ((yco.f k t1001 t1004).bind fun t1007 => (if t1007 < 0 then (some (([] : List Int), t1001, true)) else (if (t1004.length : Int) = 1 then (if 0 ≤ (t1001.length : Int) then (if ((t1001.length : Int) : Int).toNat ≤ 35184372088832 then (ycy.l0 k t1001 t1004 (List.replicate ((t1001.length : Int) : Int).toNat 0) 0 (wrap64 ((t1001.length : Int) - 1))) else (none)) else (none)) else (if 0 ≤ (wrap64 ((t1004.length : Int) - 1)) then (if (wrap64 ((t1004.length : Int) - 1)) < (t1004.length : Int) then (none) else (none)) else (none)))))))) = some (r1, r2, r3) := h
 clear h
 replace H := Option.bind_eq_some_iff.mp H
 obtain ⟨t1001, A30, H⟩ := H
 replace H : ((ybr.f k l1).bind fun t1004 => (if (t1004.length : Int) = 0 then (some (([] : List Int), ([] : List Int), false)) else ((yco.f k t1001 t1004).bind fun t1007 => (if t1007 < 0 then (some (([] : List Int), t1001, true)) else (if (t1004.length : Int) = 1 then (if 0 ≤ (t1001.length : Int) then (if ((t1001.length : Int) : Int).toNat ≤ 35184372088832 then (ycy.l0 k t1001 t1004 (List.replicate ((t1001.length : Int) : Int).toNat 0) 0 (wrap64 ((t1001.length : Int) - 1))) else (none)) else (none)) else (if 0 ≤ (wrap64 ((t1004.length : Int) - 1)) then (if (wrap64 ((t1004.length : Int) - 1)) < (t1004.length : Int) then (none) else (none)) else (none))))))) = some (r1, r2, r3) := H
 have A3 := Aside0.mk A30
 clear A30
 replace H := Option.bind_eq_some_iff.mp H
 obtain ⟨t1004, A40, H⟩ := H
 replace H : (if (t1004.length : Int) = 0 then (some (([] : List Int), ([] : List Int), false)) else ((yco.f k t1001 t1004).bind fun t1007 => (if t1007 < 0 then (some (([] : List Int), t1001, true)) else (if (t1004.length : Int) = 1 then (if 0 ≤ (t1001.length : Int) then (if ((t1001.length : Int) : Int).toNat ≤ 35184372088832 then (ycy.l0 k t1001 t1004 (List.replicate ((t1001.length : Int) : Int).toNat 0) 0 (wrap64 ((t1001.length : Int) - 1))) else (none)) else (none)) else (if 0 ≤ (wrap64 ((t1004.length : Int) - 1)) then (if (wrap64 ((t1004.length : Int) - 1)) < (t1004.length : Int) then (none) else (none)) else (none)))))) = some (r1, r2, r3) := H
 have A4 := Aside0.mk A40
 clear A40
 by_cases c5 : (t1004.length : Int) = 0
 · rw [if_pos c5] at H
   have c5b0 : ((t1004.length : Int) == 0) = true := beq_iff_eq.mpr c5
   have c5b1 : ((t1004.length : Int) != 0) = false := bne_eq_false_iff_eq.mpr c5
   clear c5
   simp only [Option.some.injEq, Prod.mk.injEq] at H
   obtain ⟨rfl, rfl, rfl⟩ := H
   go_enter Try.func38, Try.ntmps38
   go_wp2_with (first | ((with_reducible refine yar (f := 54) rfl ?_); refine yce (some 16) rfl rfl Try.func54 (by kernel_rfl) rfl #[.slice A0 l0.length c0] rfl Z6_ ?_; (with_reducible refine (ybr.calls k _ _ l0 t1001 _ ?side1 ?side2 A3.out).mono ?_); (case side1 => repeat (first | exact HR0.out | (with_reducible refine Kd.yau ?_ _) | (with_reducible refine Kd.yaw ?_ _) | (with_reducible refine Kd.ybe ?_))); (case side2 => exact HC0.out); rintro e w6 ⟨v1002, rfl, ho0, hb⟩; refine ⟨_, rfl, ?_⟩; have n0_ := Aside0.mk (Kd.ybl ho0 (yaj Z7_)); have n1_ := Aside0.mk (yai Z7_ hb); clear HB; have HO1003 := n0_; have HB := n1_; clear n0_ n1_; (try clear hb); (try clear hb2); (try clear hk); (try clear hi); (try clear ho0)) | ((with_reducible refine yar (f := 54) rfl ?_); refine yce (some 18) rfl rfl Try.func54 (by kernel_rfl) rfl #[.slice A1 l1.length c1] rfl Z6_ ?_; (with_reducible refine (ybr.calls k _ _ l1 t1004 _ ?side1 ?side2 A4.out).mono ?_); (case side1 => repeat (first | exact (Kd.ybg HR1.out HB.out) | (with_reducible refine Kd.yau ?_ _) | (with_reducible refine Kd.yaw ?_ _) | (with_reducible refine Kd.ybe ?_))); (case side2 => exact HC1.out); rintro e w7 ⟨v1005, rfl, ho0, hb⟩; refine ⟨_, rfl, ?_⟩; have n0_ := Aside0.mk (Kd.R_elder' Z9_ (Kd.ycf ho0) hb); have n1_ := Aside0.mk (Kd.ybl (Kd.R_new' ho0 (Kd.R_lt Z9_)) (yaj Z7_)); have n2_ := Aside0.mk (yai Z7_ hb); clear HO1003; clear HB; have HO1003 := n0_; have HO1006 := n1_; have HB := n2_; clear n0_ n1_ n2_; (try clear hb); (try clear hb2); (try clear hk); (try clear hi); (try clear ho0); obtain ⟨Ao8, co8, eo8⟩ := Kd.ybc HO1006.out; subst eo8))
   go_ret3
   exact ⟨_, _, by first | rfl | (simp [yap, yao] <;> rfl) | (simp [*, yap, yao] <;> rfl), by first | exact Kd.yfv _ _ _ _ _ | exact Kd.yid _ _ _ _ _ | exact Kd.yia _ _ _ _ _ | exact Kd.yic _ _ _ _ _ | exact Kd.yib _ _ _ _ _, by first | exact Kd.yfv _ _ _ _ _ | exact Kd.yid _ _ _ _ _ | exact Kd.yia _ _ _ _ _ | exact Kd.yic _ _ _ _ _ | exact Kd.yib _ _ _ _ _, by repeat (first | (with_reducible first | exact HB.out | apply yad | apply yab | apply yac) | exact HB.out)⟩
 · rw [if_neg c5] at H
   have c5b0 : ((t1004.length : Int) == 0) = false := beq_eq_false_iff_ne.mpr c5
   have c5b1 : ((t1004.length : Int) != 0) = true := bne_iff_ne.mpr c5
   have c5b2 : ¬ (t1004 = []) := fun h_ => c5 (by rw [h_]; rfl)
   replace H := Option.bind_eq_some_iff.mp H
   obtain ⟨t1007, A90, H⟩ := H
   replace H : (if t1007 < 0 then (some (([] : List Int), t1001, true)) else (if (t1004.length : Int) = 1 then (if 0 ≤ (t1001.length : Int) then (if ((t1001.length : Int) : Int).toNat ≤ 35184372088832 then (ycy.l0 k t1001 t1004 (List.replicate ((t1001.length : Int) : Int).toNat 0) 0 (wrap64 ((t1001.length : Int) - 1))) else (none)) else (none)) else (if 0 ≤ (wrap64 ((t1004.length : Int) - 1)) then (if (wrap64 ((t1004.length : Int) - 1)) < (t1004.length : Int) then (none) else (none)) else (none)))) = some (r1, r2, r3) := H
   have A9 := Aside0.mk A90
   clear A90
   by_cases c10 : t1007 < 0
   · rw [if_pos c10] at H
     have c10b0 : decide (t1007 < 0) = true := decide_eq_true c10
     clear c10
     simp only [Option.some.injEq, Prod.mk.injEq] at H
     obtain ⟨rfl, rfl, rfl⟩ := H
     go_enter Try.func38, Try.ntmps38
     go_wp2_with (first | ((with_reducible refine yar (f := 54) rfl ?_); refine yce (some 16) rfl rfl Try.func54 (by kernel_rfl) rfl #[.slice A0 l0.length c0] rfl Z6_ ?_; (with_reducible refine (ybr.calls k _ _ l0 t1001 _ ?side1 ?side2 A3.out).mono ?_); (case side1 => repeat (first | exact HR0.out | (with_reducible refine Kd.yau ?_ _) | (with_reducible refine Kd.yaw ?_ _) | (with_reducible refine Kd.ybe ?_))); (case side2 => exact HC0.out); rintro e w11 ⟨v1002, rfl, ho0, hb⟩; refine ⟨_, rfl, ?_⟩; have n0_ := Aside0.mk (Kd.ybl ho0 (yaj Z7_)); have n1_ := Aside0.mk (yai Z7_ hb); clear HB; have HO1003 := n0_; have HB := n1_; clear n0_ n1_; (try clear hb); (try clear hb2); (try clear hk); (try clear hi); (try clear ho0)) | ((with_reducible refine yar (f := 54) rfl ?_); refine yce (some 18) rfl rfl Try.func54 (by kernel_rfl) rfl #[.slice A1 l1.length c1] rfl Z6_ ?_; (with_reducible refine (ybr.calls k _ _ l1 t1004 _ ?side1 ?side2 A4.out).mono ?_); (case side1 => repeat (first | exact (Kd.ybg HR1.out HB.out) | (with_reducible refine Kd.yau ?_ _) | (with_reducible refine Kd.yaw ?_ _) | (with_reducible refine Kd.ybe ?_))); (case side2 => exact HC1.out); rintro e w12 ⟨v1005, rfl, ho0, hb⟩; refine ⟨_, rfl, ?_⟩; have n0_ := Aside0.mk (Kd.R_elder' Z9_ (Kd.ycf ho0) hb); have n1_ := Aside0.mk (Kd.ybl (Kd.R_new' ho0 (Kd.R_lt Z9_)) (yaj Z7_)); have n2_ := Aside0.mk (yai Z7_ hb); clear HO1003; clear HB; have HO1003 := n0_; have HO1006 := n1_; have HB := n2_; clear n0_ n1_ n2_; (try clear hb); (try clear hb2); (try clear hk); (try clear hi); (try clear ho0); obtain ⟨Ao13, co13, eo13⟩ := Kd.ybc HO1006.out; subst eo13; obtain ⟨Ao14, co14, eo14⟩ := Kd.ybc HO1003.out; subst eo14) | ((with_reducible refine yar (f := 42) rfl ?_); refine yce (some 27) rfl rfl Try.func42 (by kernel_rfl) rfl #[.slice Ao14 t1001.length co14, .slice Ao13 t1004.length co13] rfl Z6_ ?_; (with_reducible refine (yco.calls k _ _ t1001 _ _ t1004 t1007 _ ?side1 ?side2 ?side3 ?side4 A9.out).mono ?_); (case side1 => repeat (first | exact (Kd.R_reads' HO1003.out).2.2 | (with_reducible refine Kd.yau ?_ _) | (with_reducible refine Kd.yaw ?_ _) | (with_reducible refine Kd.ybe ?_))); (case side2 => exact (Kd.R_reads' HO1003.out).2.1); (case side3 => repeat (first | exact (Kd.R_reads' HO1006.out).2.2 | (with_reducible refine Kd.yau ?_ _) | (with_reducible refine Kd.yaw ?_ _) | (with_reducible refine Kd.ybe ?_))); (case side4 => exact (Kd.R_reads' HO1006.out).2.1); rintro e w15 ⟨rfl, hb⟩; refine ⟨_, rfl, ?_⟩; have n0_ := Aside0.mk (Kd.ycc Z9_ hb); have n1_ := Aside0.mk (Kd.ycc Z10_ hb); have n2_ := Aside0.mk (yai Z7_ hb); clear HO1003; clear HO1006; clear HB; have HO1003 := n0_; have HO1006 := n1_; have HB := n2_; clear n0_ n1_ n2_; (try clear hb); (try clear hb2); (try clear hk); (try clear hi)))
     go_ret3
     exact ⟨_, _, by first | rfl | (simp [yap, yao] <;> rfl) | (simp [*, yap, yao] <;> rfl), by first | exact Kd.yfv _ _ _ _ _ | exact Kd.yid _ _ _ _ _ | exact Kd.yia _ _ _ _ _ | exact Kd.yic _ _ _ _ _ | exact Kd.yib _ _ _ _ _, by (with_reducible repeat (first | apply Kd.yba | apply Kd.yaz | apply Kd.ybi)); exact Kd.ycn HO1003.out (fun _ hk => (by simp [Value.ownBlock])), by repeat (first | (with_reducible first | exact HB.out | apply yad | apply yab | apply yac) | exact HB.out)⟩
   · rw [if_neg c10] at H
     have c10b0 : decide (t1007 < 0) = false := decide_eq_false c10
     clear c10
     by_cases c16 : (t1004.length : Int) = 1
     · rw [if_pos c16] at H
       have c16b0 : ((t1004.length : Int) == 1) = true := beq_iff_eq.mpr c16
       have c16b1 : ((t1004.length : Int) != 1) = false := bne_eq_false_iff_eq.mpr c16
       clear c16
       by_cases c17 : 0 ≤ (t1001.length : Int)
       · rw [if_pos c17] at H
         have c17b0 := eq_true c17
         have c17b1 : decide (0 ≤ (t1001.length : Int)) = true := decide_eq_true c17
         clear c17
         by_cases c18 : ((t1001.length : Int) : Int).toNat ≤ 35184372088832
         · rw [if_pos c18] at H
           have c18b0 := eq_true c18
           have c18b1 : decide (((t1001.length : Int) : Int).toNat ≤ 35184372088832) = true := decide_eq_true c18
           clear c18
           obtain ⟨y1008, hy1008⟩ : ∃ y_ : List Int, y_ = (List.replicate ((t1001.length : Int) : Int).toNat 0) := ⟨_, rfl⟩
           replace H : (ycy.l0 k t1001 t1004 y1008 0 (wrap64 ((t1001.length : Int) - 1))) = some (r1, r2, r3) := by first | (rw [hy1008]; with_reducible exact H) | (have H2_ := (Option.bind_some _ _).symm.trans H; rw [hy1008]; with_reducible exact H2_) | (have H2_ := (Option.bind_some _ _).symm.trans H; with_reducible exact H2_) | with_reducible exact H | (rw [hy1008]; exact H) | exact H
           have Ny1008 := Aside0.mk hy1008
           clear hy1008
           have H' := Aside0.mk H
           clear H
           go_enter Try.func38, Try.ntmps38
           go_wp2_with (first | ((with_reducible refine yar (f := 54) rfl ?_); refine yce (some 16) rfl rfl Try.func54 (by kernel_rfl) rfl #[.slice A0 l0.length c0] rfl Z6_ ?_; (with_reducible refine (ybr.calls k _ _ l0 t1001 _ ?side1 ?side2 A3.out).mono ?_); (case side1 => repeat (first | exact HR0.out | (with_reducible refine Kd.yau ?_ _) | (with_reducible refine Kd.yaw ?_ _) | (with_reducible refine Kd.ybe ?_))); (case side2 => exact HC0.out); rintro e w19 ⟨v1002, rfl, ho0, hb⟩; refine ⟨_, rfl, ?_⟩; have n0_ := Aside0.mk (Kd.ybl ho0 (yaj Z7_)); have n1_ := Aside0.mk (yai Z7_ hb); clear HB; have HO1003 := n0_; have HB := n1_; clear n0_ n1_; (try clear hb); (try clear hb2); (try clear hk); (try clear hi); (try clear ho0)) | ((with_reducible refine yar (f := 54) rfl ?_); refine yce (some 18) rfl rfl Try.func54 (by kernel_rfl) rfl #[.slice A1 l1.length c1] rfl Z6_ ?_; (with_reducible refine (ybr.calls k _ _ l1 t1004 _ ?side1 ?side2 A4.out).mono ?_); (case side1 => repeat (first | exact (Kd.ybg HR1.out HB.out) | (with_reducible refine Kd.yau ?_ _) | (with_reducible refine Kd.yaw ?_ _) | (with_reducible refine Kd.ybe ?_))); (case side2 => exact HC1.out); rintro e w20 ⟨v1005, rfl, ho0, hb⟩; refine ⟨_, rfl, ?_⟩; have n0_ := Aside0.mk (Kd.R_elder' Z9_ (Kd.ycf ho0) hb); have n1_ := Aside0.mk (Kd.ybl (Kd.R_new' ho0 (Kd.R_lt Z9_)) (yaj Z7_)); have n2_ := Aside0.mk (yai Z7_ hb); clear HO1003; clear HB; have HO1003 := n0_; have HO1006 := n1_; have HB := n2_; clear n0_ n1_ n2_; (try clear hb); (try clear hb2); (try clear hk); (try clear hi); (try clear ho0); obtain ⟨Ao21, co21, eo21⟩ := Kd.ybc HO1006.out; subst eo21; obtain ⟨Ao22, co22, eo22⟩ := Kd.ybc HO1003.out; subst eo22) | ((with_reducible refine yar (f := 42) rfl ?_); refine yce (some 27) rfl rfl Try.func42 (by kernel_rfl) rfl #[.slice Ao22 t1001.length co22, .slice Ao21 t1004.length co21] rfl Z6_ ?_; (with_reducible refine (yco.calls k _ _ t1001 _ _ t1004 t1007 _ ?side1 ?side2 ?side3 ?side4 A9.out).mono ?_); (case side1 => repeat (first | exact (Kd.R_reads' HO1003.out).2.2 | (with_reducible refine Kd.yau ?_ _) | (with_reducible refine Kd.yaw ?_ _) | (with_reducible refine Kd.ybe ?_))); (case side2 => exact (Kd.R_reads' HO1003.out).2.1); (case side3 => repeat (first | exact (Kd.R_reads' HO1006.out).2.2 | (with_reducible refine Kd.yau ?_ _) | (with_reducible refine Kd.yaw ?_ _) | (with_reducible refine Kd.ybe ?_))); (case side4 => exact (Kd.R_reads' HO1006.out).2.1); rintro e w23 ⟨rfl, hb⟩; refine ⟨_, rfl, ?_⟩; have n0_ := Aside0.mk (Kd.ycc Z9_ hb); have n1_ := Aside0.mk (Kd.ycc Z10_ hb); have n2_ := Aside0.mk (yai Z7_ hb); clear HO1003; clear HO1006; clear HB; have HO1003 := n0_; have HO1006 := n1_; have HB := n2_; clear n0_ n1_ n2_; (try clear hb); (try clear hb2); (try clear hk); (try clear hi)) | ((with_reducible refine ybu (N := 35) rfl ?_); refine Kd.yhb (Kd.int .u64) _ 61 rfl (N := 35) rfl 23 _ _ rfl (t1001.length : Int) rfl rfl Try.underlying23 (.int .u64 0) 8 ygd rfl (by decide) (by omega) 0 (ok := fun _ => True) (okp := fun _ => True) rfl (fun _ hk => hk) trivial (of_decide_eq_true Z26_) (Nat.le_trans (Nat.mul_le_mul_right _ (of_decide_eq_true Z26_ : (t1001.length : Int).toNat ≤ 35184372088832)) (by omega)) (Below.refl _ _) (Nat.le_refl _) ?_; intro v1009 w24 ho25 hb hg_ hnew_; clear hg_ hnew_; (first | rw [← Ny1008.out] at ho25 | (simp only [Int.reduceToNat] at ho25; rw [← Ny1008.out] at ho25)); have n0_ := Aside0.mk (Kd.R_elder' Z9_ (Kd.ycf ho25) hb); have n1_ := Aside0.mk (Kd.R_elder' Z10_ (Kd.ycf ho25) hb); have n2_ := Aside0.mk (Kd.ybl (Kd.R_new' (Kd.R_new' ho25 (Kd.R_lt Z9_)) (Kd.R_lt Z10_)) (yaj Z7_)); have n3_ := Aside0.mk (yai Z7_ hb); clear HO1003; clear HO1006; clear HB; have HO1003 := n0_; have HO1006 := n1_; have HO1010 := n2_; have HB := n3_; clear n0_ n1_ n2_ n3_; clear hb ho25))
           go_loopg [8, 9] k (fun kq v8 v9 w' => ∃ (x4_1 : List Int) (x8_1 : Int) (x9_1 : Int), v8 = .int .u64 x8_1 ∧ v9 = .int .i64 x9_1 ∧ Aside0 (ycy.l0 kq t1001 t1004 x4_1 x8_1 x9_1 = some (r1, r2, r3)) ∧ Aside0 (kq ≤ k) ∧ Aside0 (Kd.R (Kd.int .u64) 61 w' w.heap.size (fun k_ => some k_ ≠ ((.slice Ao21 t1004.length co21) : Value).ownBlock ∧ some k_ ≠ (v1009 : Value).ownBlock) (.slice Ao22 t1001.length co22) t1001) ∧ Aside0 (Kd.R (Kd.int .u64) 61 w' w.heap.size (fun k_ => some k_ ≠ ((.slice Ao22 t1001.length co22) : Value).ownBlock ∧ some k_ ≠ (v1009 : Value).ownBlock) (.slice Ao21 t1004.length co21) t1004) ∧ Aside0 (Kd.R (Kd.int .u64) 61 w' w.heap.size (fun k_ => some k_ ≠ ((.slice Ao22 t1001.length co22) : Value).ownBlock ∧ some k_ ≠ ((.slice Ao21 t1004.length co21) : Value).ownBlock) v1009 x4_1) ∧ Aside0 (Below w.heap.size w w'))
           case atStart => exact ⟨(y1008), (0), (wrap64 ((t1001.length : Int) - 1)), Z27_, Z27_, H', ⟨Nat.le_refl _⟩, ⟨by (with_reducible repeat (first | apply Kd.yba | apply Kd.yaz | apply Kd.ybi)); exact Kd.ycn HO1003.out (fun _ hk => ⟨hk.1.2, hk.2⟩)⟩, ⟨by (with_reducible repeat (first | apply Kd.yba | apply Kd.yaz | apply Kd.ybi)); exact Kd.ycn HO1006.out (fun _ hk => ⟨hk.1.2, hk.2⟩)⟩, ⟨by (with_reducible repeat (first | apply Kd.yba | apply Kd.yaz | apply Kd.ybi)); exact Kd.ycn HO1010.out (fun _ hk => ⟨hk.1.2, hk.2⟩)⟩, ⟨by repeat (first | (with_reducible first | exact HB.out | apply yad | apply yab | apply yac) | exact HB.out)⟩⟩
           case round =>
            clear H'
            try clear c1
            try clear p2
            try clear c3
            try clear c4
            try clear c5
            try clear c5b0
            try clear c5b1
            try clear c5b2
            try clear p6
            try clear c10
            try clear c10b0
            try clear c16
            try clear c16b0
            try clear c16b1
            try clear c17
            try clear c17b0
            try clear c17b1
            try clear c18
            try clear c18b0
            try clear c18b1
            obtain ⟨x4_1, x8_1, x9_1, rfl, rfl, HA, HK1, HO_0, HO_1, HO_4, HB⟩ := hrel
            cases gk with
            | zero => exact absurd HA.out (by simp [ycy.l0])
            | succ k1 =>
             have H := HA.out
             clear HA
             simp only [ycy.l0] at H
             by_cases c26 : x9_1 ≥ 0
             · rw [if_pos c26] at H
               have c26b0 : decide (0 ≤ x9_1) = true := decide_eq_true c26
               clear c26
               by_cases c27 : 0 ≤ x9_1
               · rw [if_pos c27] at H
                 have c27b0 : decide (0 ≤ x9_1) = true := decide_eq_true c27
                 clear c27
                 by_cases c28 : x9_1 < (t1001.length : Int)
                 · rw [if_pos c28] at H
                   have c28b0 : decide (x9_1 < (t1001.length : Int)) = true := decide_eq_true c28
                   clear c28
                   by_cases c29 : 0 < (t1004.length : Int)
                   · rw [if_pos c29] at H
                     have c29b0 : decide (0 < (t1004.length : Int)) = true := decide_eq_true c29
                     have c29b1 : decide (0 < t1004.length) = true := decide_eq_true (by omega)
                     clear c29
                     replace H := Option.bind_eq_some_iff.mp H
                     obtain ⟨⟨t1013, t1014⟩, A300, H⟩ := H
                     replace H : (if x9_1 < (x4_1.length : Int) then (ycy.l0 k1 t1001 t1004 (x4_1.set (x9_1 : Int).toNat t1013) t1014 (wrap64 (x9_1 - 1))) else (none)) = some (r1, r2, r3) := H
                     have A30 := Aside0.mk A300
                     clear A300
                     by_cases c31 : x9_1 < (x4_1.length : Int)
                     · rw [if_pos c31] at H
                       have c31b0 : decide (x9_1 < (x4_1.length : Int)) = true := decide_eq_true c31
                       clear c31
                       obtain ⟨y1015, hy1015⟩ : ∃ y_ : List Int, y_ = (x4_1.set (x9_1 : Int).toNat t1013) := ⟨_, rfl⟩
                       replace H : (ycy.l0 k1 t1001 t1004 y1015 t1014 (wrap64 (x9_1 - 1))) = some (r1, r2, r3) := by first | (rw [hy1015]; with_reducible exact H) | (have H2_ := (Option.bind_some _ _).symm.trans H; rw [hy1015]; with_reducible exact H2_) | (have H2_ := (Option.bind_some _ _).symm.trans H; with_reducible exact H2_) | with_reducible exact H | (rw [hy1015]; exact H) | exact H
                       have Ny1015 := Aside0.mk hy1015
                       clear hy1015
                       have H' := Aside0.mk H
                       clear H
                       try go_wp2
                       have n0_ := Aside0.mk (Kd.ybi HO_0.out)
                       have n1_ := Aside0.mk (Kd.ybi HO_1.out)
                       have n2_ := Aside0.mk (Kd.ybi HO_4.out)
                       have n3_ := Aside0.mk (yac HB.out)
                       clear HO_0
                       clear HO_1
                       clear HO_4
                       clear HB
                       have HO_0 := n0_
                       have HO_1 := n1_
                       have HO_4 := n2_
                       have HB := n3_
                       clear n0_ n1_ n2_ n3_
                       have p1011 : 0 ≤ (x9_1 : Int) := of_decide_eq_true Z26_
                       have q1011 : x9_1 < (t1001.length : Int) := of_decide_eq_true Z26_
                       obtain ⟨ad1011, e1011, hx1011_0⟩ := Kd.ybs (Kd.R_reads' HO_0.out).2.2 x9_1 p1011 q1011
                       cases e1011
                       replace p1011 := eq_true p1011
                       replace q1011 := eq_true q1011
                       have p1012 : 0 ≤ (0 : Int) := (by omega)
                       have q1012 : 0 < (t1004.length : Int) := of_decide_eq_true Z26_
                       obtain ⟨ad1012, e1012, hx1012_0⟩ := Kd.ybs (Kd.R_reads' HO_1.out).2.2 0 p1012 q1012
                       cases e1012
                       have qi1012 : (0 < t1004.length) = True := eq_true (by omega)
                       (try rw [show ((0 : Int)).toNat = 0 from rfl] at hx1012_0)
                       (try rw [Addr.add_zero'] at hx1012_0)
                       replace p1012 := eq_true p1012
                       replace q1012 := eq_true q1012
                       refine yeq (n := 17) (S := fun w' => w'.cell? (ad1011.add (x9_1).toNat) = some (.int .u64 (rd t1001 x9_1)) ∧ w'.cell? ad1012 = some (.int .u64 (rd t1004 0))) (ds := [15]) Q50_ (by kernel_rfl) rfl rfl ⟨hx1011_0, hx1012_0⟩ (fun hHeld => ?_); refine yde ycy.tab13 ycy.bits13 (fun HT_ HW_ => ?_)
                       generalize wr.drew = w33 at HO_0 HO_1 HO_4 HB hx1011_0 hx1012_0 hHeld ⊢
                       refine pV 0 44 Q51_ (yae HT_.out (by kernel_rfl)) ?_
                       refine pV 1 45 Q52_ (yae HT_.out (by kernel_rfl)) ?_
                       refine pV 2 46 Q53_ (yae HT_.out (by kernel_rfl)) ?_
                       refine pV 3 47 Q54_ (yae HT_.out (by kernel_rfl)) ?_
                       refine pV 4 48 Q55_ (yae HT_.out (by kernel_rfl)) ?_
                       refine pV 5 49 Q56_ (yae HT_.out (by kernel_rfl)) ?_
                       refine pV 7 51 Q116_ (yae HT_.out (by kernel_rfl)) ?_
                       refine pV 8 52 Q117_ (yae HT_.out (by kernel_rfl)) ?_
                       refine pT2 6 50 Q118_ (ycd HT_.out HW_.out (by kernel_rfl)) hHeld ?_
                       refine pT2 9 53 Q119_ (ycd HT_.out HW_.out (by kernel_rfl)) hHeld ?_
                       refine one_ (i := 10) (N := some 54) Q57_ rfl rfl (ydr HT_.out (by kernel_rfl)) (by decide) (fun K hK => ?_)
                       refine yfa Try.func71 (by kernel_rfl) rfl #[.int .u64 x8_1, .int .u64 (rd t1001 x9_1), .int .u64 (rd t1004 0)] (by rfl) rfl rfl Z6_ ?_
                       with_reducible refine (yay.calls k1 x8_1 (rd t1001 x9_1) (rd t1004 0) t1013 t1014 _ A30.out).mono ?_
                       rintro e w' ⟨rfl, ⟨nd, rfl⟩⟩
                       refine ⟨_, rfl, ?_⟩
                       have p32 : 0 ≤ (x9_1 : Int) := of_decide_eq_true Z26_
                       have q32 : (x9_1 : Int) < ((x4_1.length : Int) : Int) := of_decide_eq_true Z26_
                       obtain ⟨go32, co32, eo32, gb32, gl32, cl32, HG32⟩ := Kd.yey HO_4.out (by omega)
                       (first | cases eo32 | (injection eo32 with ea_ en_ ec_; (first | subst ea_ | (injection ea_ with ea_; subst ea_)); subst ec_; clear en_))
                       have GB32 := Aside0.mk gb32
                       have GG32 := Aside0.mk HG32
                       clear gb32 gl32 HG32
                       obtain ⟨hx32_0, hf32_0⟩ := Kd.ydb 0 HO_4.out (x9_1 : Int) p32 q32
                       replace p32 := eq_true p32
                       replace q32 := eq_true q32
                       have HP34 := Kd.R_putn HO_4.out (x9_1 : Int) t1013
                       rw [← Ny1015.out] at HP34
                       have HQ34 := Aside0.mk HP34
                       clear HP34
                       refine hK.out _ _ ⟨hHeld.1, hHeld.2⟩ (fun hHeld => ?_)
                       clear hK K
                       refine pN 54 ?_
                       refine pV 11 43 Q58_ (yae HT_.out (by kernel_rfl)) ?_
                       refine pV 12 55 Q59_ (yae HT_.out (by kernel_rfl)) ?_
                       refine pV 13 56 Q60_ (yae HT_.out (by kernel_rfl)) ?_
                       refine pV 14 57 Q61_ (yae HT_.out (by kernel_rfl)) ?_
                       refine last_ (i := 15) (N := none) Q62_ rfl rfl (ydr HT_.out (by kernel_rfl)) (by decide) (fun K hK => ?_)
                       refine skip_ (w1 := ?_) (by rfl) rfl ?_ ?_
                       rotate_left
                       · go_simp
                         rfl
                       refine hK.out _ _ ?_
                       clear hK K
                       refine pV 16 8 Q63_ (yae HT_.out (by kernel_rfl)) ?_
                       refine yfk (ydx HT_.out (by kernel_rfl)) ?_
                       try go_wp2
                       go_roundg k1
                       case measure => have := HK1.out; omega
                       case rel => exact ⟨(y1015), (t1014), (wrap64 (x9_1 - 1)), Z27_, Z27_, H', ⟨by have := HK1.out; omega⟩, ⟨by (with_reducible repeat (first | apply Kd.yba | apply Kd.yaz | apply Kd.ybi)); exact Kd.ycn (Kd.R_far (p := ⟨go32, (x9_1 : Int).toNat, none⟩) (Kd.ycn HO_0.out (fun k_ hk => (⟨hk, fun e_ => hk.2 (by rw [e_]; rfl)⟩ : _ ∧ k_ ≠ go32))) (fun _ hk => hk.2) (.int .u64 t1013)) (fun _ hk => ⟨hk.1.1, hk.1.2⟩)⟩, ⟨by (with_reducible repeat (first | apply Kd.yba | apply Kd.yaz | apply Kd.ybi)); exact Kd.ycn (Kd.R_far (p := ⟨go32, (x9_1 : Int).toNat, none⟩) (Kd.ycn HO_1.out (fun k_ hk => (⟨hk, fun e_ => hk.2 (by rw [e_]; rfl)⟩ : _ ∧ k_ ≠ go32))) (fun _ hk => hk.2) (.int .u64 t1013)) (fun _ hk => ⟨hk.1.1, hk.1.2⟩)⟩, ⟨by (with_reducible repeat (first | apply Kd.yba | apply Kd.yaz | apply Kd.ybi)); exact HQ34.out⟩, ⟨by repeat (first | (with_reducible first | exact HB.out | apply yad | apply yab | apply yac | refine ybx ?_ GB32.out) | exact HB.out)⟩⟩
                     · rw [if_neg c31] at H
                       exact absurd H (by simp)
                   · rw [if_neg c29] at H
                     exact absurd H (by simp)
                 · rw [if_neg c28] at H
                   exact absurd H (by simp)
               · rw [if_neg c27] at H
                 exact absurd H (by simp)
             · rw [if_neg c26] at H
               have c26b0 : decide (0 ≤ x9_1) = false := decide_eq_false c26
               clear c26
               replace H := Option.bind_eq_some_iff.mp H
               obtain ⟨t1016, A350, H⟩ := H
               replace H : ((yfi.f k1 x8_1).bind fun t1019 => (some (t1016, t1019, true))) = some (r1, r2, r3) := H
               have A35 := Aside0.mk A350
               clear A350
               replace H := Option.bind_eq_some_iff.mp H
               obtain ⟨t1019, A360, H⟩ := H
               replace H : (some (t1016, t1019, true)) = some (r1, r2, r3) := H
               have A36 := Aside0.mk A360
               clear A360
               simp only [Option.some.injEq, Prod.mk.injEq] at H
               obtain ⟨rfl, rfl, rfl⟩ := H
               obtain ⟨Ao37, co37, eo37⟩ := Kd.ybc HO_4.out
               subst eo37
               go_wp2_with (first | ((with_reducible refine yar (f := 54) rfl ?_); refine yce (some 59) rfl rfl Try.func54 (by kernel_rfl) rfl #[.slice Ao37 x4_1.length co37] rfl Z6_ ?_; (with_reducible refine (ybr.calls k1 _ _ x4_1 t1016 _ ?side1 ?side2 A35.out).mono ?_); (case side1 => repeat (first | exact (Kd.R_reads' HO_4.out).2.2 | (with_reducible refine Kd.yau ?_ _) | (with_reducible refine Kd.yaw ?_ _) | (with_reducible refine Kd.ybe ?_))); (case side2 => exact (Kd.R_reads' HO_4.out).2.1); rintro e w38 ⟨v1017, rfl, ho0, hb⟩; refine ⟨_, rfl, ?_⟩; have n0_ := Aside0.mk (Kd.R_elder' Z23_ (Kd.ycf ho0) hb); have n1_ := Aside0.mk (Kd.R_elder' Z24_ (Kd.ycf ho0) hb); have n2_ := Aside0.mk (Kd.R_elder' Z22_ (Kd.ycf ho0) hb); have n3_ := Aside0.mk (Kd.ybl (Kd.R_new' (Kd.R_new' (Kd.R_new' ho0 (Kd.R_lt Z23_)) (Kd.R_lt Z24_)) (Kd.R_lt Z22_)) (yaj Z7_)); have n4_ := Aside0.mk (yai Z7_ hb); clear HO_0; clear HO_1; clear HO_4; clear HB; have HO_0 := n0_; have HO_1 := n1_; have HO_4 := n2_; have HO1018 := n3_; have HB := n4_; clear n0_ n1_ n2_ n3_ n4_; (try clear hb); (try clear hb2); (try clear hk); (try clear hi); (try clear ho0)) | ((with_reducible refine yar (f := 39) rfl ?_); refine yce (some 61) rfl rfl Try.func39 (by kernel_rfl) rfl #[.int .u64 x8_1] rfl Z6_ ?_; (with_reducible refine (yfi.calls k1 x8_1 t1019 _ A36.out).mono ?_); rintro e w39 ⟨v1020, rfl, ho0, hb⟩; refine ⟨_, rfl, ?_⟩; have n0_ := Aside0.mk (Kd.R_elder' Z23_ (Kd.ycf ho0) hb); have n1_ := Aside0.mk (Kd.R_elder' Z24_ (Kd.ycf ho0) hb); have n2_ := Aside0.mk (Kd.R_elder' Z22_ (Kd.ycf ho0) hb); have n3_ := Aside0.mk (Kd.R_elder' (by (with_reducible repeat (first | apply Kd.yba | apply Kd.yaz | apply Kd.ybi)); exact HO1018.out) (Kd.ycf ho0) hb); have n4_ := Aside0.mk (Kd.ybl (Kd.R_new' (Kd.R_new' (Kd.R_new' (Kd.R_new' ho0 (Kd.R_lt Z23_)) (Kd.R_lt Z24_)) (Kd.R_lt Z22_)) (Kd.R_lt (by (with_reducible repeat (first | apply Kd.yba | apply Kd.yaz | apply Kd.ybi)); exact HO1018.out))) (yaj Z7_)); have n5_ := Aside0.mk (yai Z7_ hb); clear HO_0; clear HO_1; clear HO_4; clear HO1018; clear HB; have HO_0 := n0_; have HO_1 := n1_; have HO_4 := n2_; have HO1018 := n3_; have HO1021 := n4_; have HB := n5_; clear n0_ n1_ n2_ n3_ n4_ n5_; (try clear hb); (try clear hb2); (try clear hk); (try clear hi); (try clear ho0)))
               go_ret3
               exact ⟨_, _, by first | rfl | (simp [yap, yao] <;> rfl) | (simp [*, yap, yao] <;> rfl), by (with_reducible repeat (first | apply Kd.yba | apply Kd.yaz | apply Kd.ybi)); exact Kd.ycn HO1018.out (fun _ hk => hk.2), by (with_reducible repeat (first | apply Kd.yba | apply Kd.yaz | apply Kd.ybi)); exact Kd.ycn HO1021.out (fun _ hk => hk.2), by repeat (first | (with_reducible first | exact HB.out | apply yad | apply yab | apply yac) | exact HB.out)⟩
         · rw [if_neg c18] at H
           exact absurd H (by simp)
       · rw [if_neg c17] at H
         exact absurd H (by simp)
     · rw [if_neg c16] at H
       have c16b0 : ((t1004.length : Int) == 1) = false := beq_eq_false_iff_ne.mpr c16
       have c16b1 : ((t1004.length : Int) != 1) = true := bne_iff_ne.mpr c16
       obtain ⟨ji40, hji40⟩ : ∃ j_ : Int, (wrap64 ((t1004.length : Int) - 1)) = j_ := ⟨_, rfl⟩
       replace H : (if 0 ≤ (ji40) then (if (ji40) < (t1004.length : Int) then (none) else (none)) else (none)) = some (r1, r2, r3) := by first | (rw [hji40] at H; exact H) | (simp only [hji40] at H ⊢; exact H)
       (try rw [hji40] at A3)
       (try rw [hji40] at A4)
       (try rw [hji40] at A9)
       have hji40w : (IntKind.i64.wrap ((t1004.length : Int) - 1)) = ji40 := (ydk _).trans hji40
       by_cases c41 : 0 ≤ (ji40)
       · rw [if_pos c41] at H
         have c41b0 : decide (0 ≤ (ji40)) = true := decide_eq_true c41
         clear c41
         by_cases c42 : (ji40) < (t1004.length : Int)
         · rw [if_pos c42] at H
           have c42b0 : decide ((ji40) < (t1004.length : Int)) = true := decide_eq_true c42
           clear c42
           exact absurd H (by simp)
         · rw [if_neg c42] at H
           exact absurd H (by simp)
       · rw [if_neg c41] at H
         exact absurd H (by simp)
end Go.Proofs.Ytgnaaaliadiekaa.B
end
