/- A part of the proof (merged by pack.py, a program of this session: what the row's proof names). -/
import Derived.Test.YtgnaaaliadiekaaM4
import Derived.Test.YtgnaaaliadiekaaM13
import Derived.Test.YtgnaaaliadiekaaM18
import Derived.Test.YtgnaaaliadiekaaM19
import Derived.Test.YtgnaaaliadiekaaM21
import Derived.Test.YtgnaaaliadiekaaM0
section
namespace Go.Proofs.Ytgnaaaliadiekaa.B
open Go.RowKit Go.Proofs.YtgnaaaliadiekaaW.PrintWords Go.Proofs.YtgnaaaliadiekaaW.PrintLast Go.Proofs.YtgnaaaliadiekaaW.PrintMore
attribute [local go_sem] ycj ych ycs ycr ybw ybv yci ycg   -- for this text's walks alone
attribute [local go_sem] yca ybn ybz ybm
set_option linter.unusedVariables false
set_option linter.unusedSimpArgs false
def ycb.f (k : Nat) (l0 : List Int) (l1 : List Int) : Option (List Int) := (yan.f k l0 l1).bind fun bt1001 => (some bt1001.2)
set_option maxHeartbeats 8000000 in
set_option maxRecDepth 100000 in
theorem ycb.calls (k : Nat) (A0 : Option Addr) (c0 : Nat) (l0 : List Int) (A1 : Option Addr) (c1 : Nat) (l1 : List Int) (r : List Int) (w : World) (hr0 : Kd.C (Kd.int .i64) w A0 l0.length l0) (hc0 : l0.length ≤ c0) (hr1 : Kd.C (Kd.int .i64) w A1 l1.length l1) (hc1 : l1.length ≤ c1) (h : ycb.f k l0 l1 = some r) :
 Calls Try.prog 61 #[.slice A0 l0.length c0, .slice A1 l1.length c1] w fun e w' => ∃ v0_ : Value, e = .returned (v0_) ∧ Kd.R (Kd.int .i64) 3 w' w.heap.size (fun _ => True) v0_ r ∧ Below w.heap.size w w' := by
 have HR0 := Aside0.mk hr0
 have HC0 := Aside0.mk hc0
 clear hr0 hc0
 have HR1 := Aside0.mk hr1
 have HC1 := Aside0.mk hc1
 clear hr1 hc1
 have HB := Aside0.mk (Below.refl w.heap.size w)
 have H : ((yan.f k l0 l1).bind fun bt1001 => (some bt1001.2)) = some r := h
 clear h
 replace H := Option.bind_eq_some_iff.mp H
 obtain ⟨⟨t1001, t1002⟩, A30, H⟩ := H
 replace H : (some t1002) = some r := H
 have A3 := Aside0.mk A30
 clear A30
 obtain rfl := Option.some.inj H
 go_enter Try.func61, Try.ntmps61
 go_wp2_with (first | ((with_reducible refine yar (f := 87) rfl ?_); refine yce (some 10) rfl rfl Try.func87 (by kernel_rfl) rfl #[.slice A0 l0.length c0, .slice A1 l1.length c1] rfl Z6_ ?_; (with_reducible refine (yan.calls k _ _ l0 _ _ l1 t1001 t1002 _ ?side1 ?side2 ?side3 ?side4 A3.out).mono ?_); (case side1 => repeat (first | exact HR0.out | (with_reducible refine Kd.yau ?_ _) | (with_reducible refine Kd.yaw ?_ _) | (with_reducible refine Kd.ybe ?_))); (case side2 => exact HC0.out); (case side3 => repeat (first | exact HR1.out | (with_reducible refine Kd.yau ?_ _) | (with_reducible refine Kd.yaw ?_ _) | (with_reducible refine Kd.ybe ?_))); (case side4 => exact HC1.out); rintro e w4 ⟨v1003, v1005, rfl, ho0, ho1, hb⟩; refine ⟨_, rfl, ?_⟩; have n0_ := Aside0.mk (Kd.ybl ho0 (yaj Z7_)); have n1_ := Aside0.mk (Kd.ybl ho1 (yaj Z7_)); have n2_ := Aside0.mk (yai Z7_ hb); clear HB; have HO1004 := n0_; have HO1006 := n1_; have HB := n2_; clear n0_ n1_ n2_; (try clear hb); (try clear hb2); (try clear hk); (try clear hi); (try clear ho0); (try clear ho1)))
 go_ret
 exact ⟨_, by first | rfl | (simp [yap, yao] <;> rfl) | (simp [*, yap, yao] <;> rfl), by (with_reducible repeat (first | apply Kd.yba | apply Kd.yaz | apply Kd.ybi)); exact Kd.ycn HO1006.out (fun _ hk => trivial), by repeat (first | (with_reducible first | exact HB.out | apply yad | apply yab | apply yac) | exact HB.out)⟩
end Go.Proofs.Ytgnaaaliadiekaa.B
end
section
namespace Go.Proofs.Ytgnaaaliadiekaa.B
open Go.RowKit Go.Proofs.YtgnaaaliadiekaaW.PrintWords Go.Proofs.YtgnaaaliadiekaaW.PrintLast Go.Proofs.YtgnaaaliadiekaaW.PrintMore
attribute [local go_sem] ycj ych ycs ycr ybw ybv yci ycg   -- for this text's walks alone
attribute [local go_sem] yca ybn ybz ybm
set_option linter.unusedVariables false
set_option linter.unusedSimpArgs false
def ybh.l0 : Nat → List Int → List Int → List Int → List Int → Int → Option (List Int)
 | 0, _, _, _, _, _ => none
 | k + 1, x0, x1, x2, x7, x8 => if x8 ≥ 0 then ((yaf.f k x7 x7).bind fun t1008 => ((ycb.f k t1008 x2).bind fun t1011 => ((ydc.f x1 x8).bind fun t1014 => (if t1014 = 1 then ((yaf.f k t1011 x0).bind fun t1015 => ((ycb.f k t1015 x2).bind fun t1018 => (ybh.l0 k x0 x1 x2 t1018 (wrap64 (x8 - 1))))) else (ybh.l0 k x0 x1 x2 t1011 (wrap64 (x8 - 1))))))) else (some x7)
def ybh.f (k : Nat) (l0 : List Int) (l1 : List Int) (l2 : List Int) : Option (List Int) := (yat.f k 1).bind fun t1001 => ((ycb.f k t1001 l2).bind fun t1004 => ((yaq.f k l1).bind fun t1007 => (ybh.l0 k l0 l1 l2 t1004 (wrap64 (t1007 - 1)))))
set_option maxHeartbeats 8000000 in
set_option maxRecDepth 100000 in
theorem ybh.calls (k : Nat) (A0 : Option Addr) (c0 : Nat) (l0 : List Int) (A1 : Option Addr) (c1 : Nat) (l1 : List Int) (A2 : Option Addr) (c2 : Nat) (l2 : List Int) (r : List Int) (w : World) (hr0 : Kd.C (Kd.int .i64) w A0 l0.length l0) (hc0 : l0.length ≤ c0) (hr1 : Kd.C (Kd.int .i64) w A1 l1.length l1) (hc1 : l1.length ≤ c1) (hr2 : Kd.C (Kd.int .i64) w A2 l2.length l2) (hc2 : l2.length ≤ c2) (h : ybh.f k l0 l1 l2 = some r) :
 Calls Try.prog 22 #[.slice A0 l0.length c0, .slice A1 l1.length c1, .slice A2 l2.length c2] w fun e w' => ∃ v0_ : Value, e = .returned (v0_) ∧ Kd.R (Kd.int .i64) 3 w' w.heap.size (fun _ => True) v0_ r ∧ Below w.heap.size w w' := by
 have HR0 := Aside0.mk hr0
 have HC0 := Aside0.mk hc0
 clear hr0 hc0
 have HR1 := Aside0.mk hr1
 have HC1 := Aside0.mk hc1
 clear hr1 hc1
 have HR2 := Aside0.mk hr2
 have HC2 := Aside0.mk hc2
 clear hr2 hc2
 have HB := Aside0.mk (Below.refl w.heap.size w)
 have H : ((yat.f k 1).bind fun t1001 => ((ycb.f k t1001 l2).bind fun t1004 => ((yaq.f k l1).bind fun t1007 => (ybh.l0 k l0 l1 l2 t1004 (wrap64 (t1007 - 1)))))) = some r := h
 clear h
 replace H := Option.bind_eq_some_iff.mp H
 obtain ⟨t1001, A40, H⟩ := H
 replace H : ((ycb.f k t1001 l2).bind fun t1004 => ((yaq.f k l1).bind fun t1007 => (ybh.l0 k l0 l1 l2 t1004 (wrap64 (t1007 - 1))))) = some r := H
 have A4 := Aside0.mk A40
 clear A40
 replace H := Option.bind_eq_some_iff.mp H
 obtain ⟨t1004, A50, H⟩ := H
 replace H : ((yaq.f k l1).bind fun t1007 => (ybh.l0 k l0 l1 l2 t1004 (wrap64 (t1007 - 1)))) = some r := H
 have A5 := Aside0.mk A50
 clear A50
 replace H := Option.bind_eq_some_iff.mp H
 obtain ⟨t1007, A60, H⟩ := H
 replace H : (ybh.l0 k l0 l1 l2 t1004 (wrap64 (t1007 - 1))) = some r := H
 have A6 := Aside0.mk A60
 clear A60
 have H' := Aside0.mk H
 clear H
 go_enter Try.func22, Try.ntmps22
 go_wp2_with (first | ((with_reducible refine yar (f := 51) rfl ?_); refine yce (some 9) rfl rfl Try.func51 (by kernel_rfl) rfl #[.int .i64 1] rfl Z6_ ?_; (with_reducible refine (yat.calls k 1 t1001 _ A4.out).mono ?_); rintro e w7 ⟨v1002, rfl, ho0, hb⟩; refine ⟨_, rfl, ?_⟩; have n0_ := Aside0.mk (Kd.ybl ho0 (yaj Z7_)); have n1_ := Aside0.mk (yai Z7_ hb); clear HB; have HO1003 := n0_; have HB := n1_; clear n0_ n1_; (try clear hb); (try clear hb2); (try clear hk); (try clear hi); (try clear ho0); obtain ⟨Ao8, co8, eo8⟩ := Kd.ybc HO1003.out; subst eo8) | ((with_reducible refine yar (f := 61) rfl ?_); refine yce (some 11) rfl rfl Try.func61 (by kernel_rfl) rfl #[.slice Ao8 t1001.length co8, .slice A2 l2.length c2] rfl Z6_ ?_; (with_reducible refine (ycb.calls k _ _ t1001 _ _ l2 t1004 _ ?side1 ?side2 ?side3 ?side4 A5.out).mono ?_); (case side1 => repeat (first | exact (Kd.R_reads' HO1003.out).2.2 | (with_reducible refine Kd.yau ?_ _) | (with_reducible refine Kd.yaw ?_ _) | (with_reducible refine Kd.ybe ?_))); (case side2 => exact (Kd.R_reads' HO1003.out).2.1); (case side3 => repeat (first | exact (Kd.ybg HR2.out HB.out) | (with_reducible refine Kd.yau ?_ _) | (with_reducible refine Kd.yaw ?_ _) | (with_reducible refine Kd.ybe ?_))); (case side4 => exact HC2.out); rintro e w9 ⟨v1005, rfl, ho0, hb⟩; refine ⟨_, rfl, ?_⟩; have n0_ := Aside0.mk (Kd.R_elder' Z9_ (Kd.ycf ho0) hb); have n1_ := Aside0.mk (Kd.ybl (Kd.R_new' ho0 (Kd.R_lt Z9_)) (yaj Z7_)); have n2_ := Aside0.mk (yai Z7_ hb); clear HO1003; clear HB; have HO1003 := n0_; have HO1006 := n1_; have HB := n2_; clear n0_ n1_ n2_; (try clear hb); (try clear hb2); (try clear hk); (try clear hi); (try clear ho0)) | ((with_reducible refine yar (f := 14) rfl ?_); refine yce (some 13) rfl rfl Try.func14 (by kernel_rfl) rfl #[.slice A1 l1.length c1] rfl Z6_ ?_; (with_reducible refine (yaq.calls k _ _ l1 t1007 _ ?side1 ?side2 A6.out).mono ?_); (case side1 => repeat (first | exact (Kd.ybg HR1.out HB.out) | (with_reducible refine Kd.yau ?_ _) | (with_reducible refine Kd.yaw ?_ _) | (with_reducible refine Kd.ybe ?_))); (case side2 => exact HC1.out); rintro e w' ⟨rfl, ⟨nd, rfl⟩⟩; refine ⟨_, rfl, ?_⟩))
 go_loopg [7, 8] k (fun kq v7 v8 w' => ∃ (x7_1 : List Int) (x8_1 : Int), v8 = .int .i64 x8_1 ∧ Aside0 (ybh.l0 kq l0 l1 l2 x7_1 x8_1 = some r) ∧ Aside0 (kq ≤ k) ∧ Aside0 (Kd.R (Kd.int .i64) 3 w' w.heap.size (fun _ => True) v7 x7_1) ∧ Aside0 (Below w.heap.size w w'))
 case atStart => exact ⟨(t1004), (wrap64 (t1007 - 1)), Z27_, H', ⟨Nat.le_refl _⟩, ⟨by (with_reducible repeat (first | apply Kd.yba | apply Kd.yaz | apply Kd.ybi)); exact Kd.ycn HO1006.out (fun _ hk => trivial)⟩, ⟨by repeat (first | (with_reducible first | exact HB.out | apply yad | apply yab | apply yac) | exact HB.out)⟩⟩
 case round =>
  clear H'
  try clear c1
  try clear c2
  try clear p2
  try clear c5
  try clear c6
  try clear p6
  obtain ⟨x7_1, x8_1, rfl, HA, HK1, HO_7, HB⟩ := hrel
  cases gk with
  | zero => exact absurd HA.out (by simp [ybh.l0])
  | succ k1 =>
   have H := HA.out
   clear HA
   simp only [ybh.l0] at H
   by_cases c10 : x8_1 ≥ 0
   · rw [if_pos c10] at H
     have c10b0 : decide (0 ≤ x8_1) = true := decide_eq_true c10
     clear c10
     replace H := Option.bind_eq_some_iff.mp H
     obtain ⟨t1008, A110, H⟩ := H
     replace H : ((ycb.f k1 t1008 l2).bind fun t1011 => ((ydc.f l1 x8_1).bind fun t1014 => (if t1014 = 1 then ((yaf.f k1 t1011 l0).bind fun t1015 => ((ycb.f k1 t1015 l2).bind fun t1018 => (ybh.l0 k1 l0 l1 l2 t1018 (wrap64 (x8_1 - 1))))) else (ybh.l0 k1 l0 l1 l2 t1011 (wrap64 (x8_1 - 1)))))) = some r := H
     have A11 := Aside0.mk A110
     clear A110
     replace H := Option.bind_eq_some_iff.mp H
     obtain ⟨t1011, A120, H⟩ := H
     replace H : ((ydc.f l1 x8_1).bind fun t1014 => (if t1014 = 1 then ((yaf.f k1 t1011 l0).bind fun t1015 => ((ycb.f k1 t1015 l2).bind fun t1018 => (ybh.l0 k1 l0 l1 l2 t1018 (wrap64 (x8_1 - 1))))) else (ybh.l0 k1 l0 l1 l2 t1011 (wrap64 (x8_1 - 1))))) = some r := H
     have A12 := Aside0.mk A120
     clear A120
     replace H := Option.bind_eq_some_iff.mp H
     obtain ⟨t1014, A130, H⟩ := H
     replace H : (if t1014 = 1 then ((yaf.f k1 t1011 l0).bind fun t1015 => ((ycb.f k1 t1015 l2).bind fun t1018 => (ybh.l0 k1 l0 l1 l2 t1018 (wrap64 (x8_1 - 1))))) else (ybh.l0 k1 l0 l1 l2 t1011 (wrap64 (x8_1 - 1)))) = some r := H
     have A13 := Aside0.mk A130
     clear A130
     by_cases c14 : t1014 = 1
     · rw [if_pos c14] at H
       have c14b0 : (t1014 == 1) = true := beq_iff_eq.mpr c14
       have c14b1 : (t1014 != 1) = false := bne_eq_false_iff_eq.mpr c14
       clear c14
       replace H := Option.bind_eq_some_iff.mp H
       obtain ⟨t1015, A150, H⟩ := H
       replace H : ((ycb.f k1 t1015 l2).bind fun t1018 => (ybh.l0 k1 l0 l1 l2 t1018 (wrap64 (x8_1 - 1)))) = some r := H
       have A15 := Aside0.mk A150
       clear A150
       replace H := Option.bind_eq_some_iff.mp H
       obtain ⟨t1018, A160, H⟩ := H
       replace H : (ybh.l0 k1 l0 l1 l2 t1018 (wrap64 (x8_1 - 1))) = some r := H
       have A16 := Aside0.mk A160
       clear A160
       have H' := Aside0.mk H
       clear H
       obtain ⟨Ao17, co17, eo17⟩ := Kd.ybc HO_7.out
       subst eo17
       go_wp2_with (first | ((with_reducible refine yar (f := 62) rfl ?_); refine yce (some 21) rfl rfl Try.func62 (by kernel_rfl) rfl #[.slice Ao17 x7_1.length co17, .slice Ao17 x7_1.length co17] rfl Z6_ ?_; (with_reducible refine (yaf.calls k1 _ _ x7_1 _ _ x7_1 t1008 _ ?side1 ?side2 ?side3 ?side4 A11.out).mono ?_); (case side1 => repeat (first | exact (Kd.R_reads' HO_7.out).2.2 | (with_reducible refine Kd.yau ?_ _) | (with_reducible refine Kd.yaw ?_ _) | (with_reducible refine Kd.ybe ?_))); (case side2 => exact (Kd.R_reads' HO_7.out).2.1); (case side3 => repeat (first | exact (Kd.R_reads' HO_7.out).2.2 | (with_reducible refine Kd.yau ?_ _) | (with_reducible refine Kd.yaw ?_ _) | (with_reducible refine Kd.ybe ?_))); (case side4 => exact (Kd.R_reads' HO_7.out).2.1); rintro e w18 ⟨v1009, rfl, ho0, hb⟩; refine ⟨_, rfl, ?_⟩; have n0_ := Aside0.mk (Kd.R_elder' Z21_ (Kd.ycf ho0) hb); have n1_ := Aside0.mk (Kd.ybl (Kd.R_new' ho0 (Kd.R_lt Z21_)) (yaj Z7_)); have n2_ := Aside0.mk (yai Z7_ hb); clear HO_7; clear HB; have HO_7 := n0_; have HO1010 := n1_; have HB := n2_; clear n0_ n1_ n2_; (try clear hb); (try clear hb2); (try clear hk); (try clear hi); (try clear ho0); obtain ⟨Ao19, co19, eo19⟩ := Kd.ybc HO1010.out; subst eo19) | ((with_reducible refine yar (f := 61) rfl ?_); refine yce (some 23) rfl rfl Try.func61 (by kernel_rfl) rfl #[.slice Ao19 t1008.length co19, .slice A2 l2.length c2] rfl Z6_ ?_; (with_reducible refine (ycb.calls k1 _ _ t1008 _ _ l2 t1011 _ ?side1 ?side2 ?side3 ?side4 A12.out).mono ?_); (case side1 => repeat (first | exact (Kd.R_reads' HO1010.out).2.2 | (with_reducible refine Kd.yau ?_ _) | (with_reducible refine Kd.yaw ?_ _) | (with_reducible refine Kd.ybe ?_))); (case side2 => exact (Kd.R_reads' HO1010.out).2.1); (case side3 => repeat (first | exact (Kd.ybg HR2.out HB.out) | (with_reducible refine Kd.yau ?_ _) | (with_reducible refine Kd.yaw ?_ _) | (with_reducible refine Kd.ybe ?_))); (case side4 => exact HC2.out); rintro e w20 ⟨v1012, rfl, ho0, hb⟩; refine ⟨_, rfl, ?_⟩; have n0_ := Aside0.mk (Kd.R_elder' Z21_ (Kd.ycf ho0) hb); have n1_ := Aside0.mk (Kd.R_elder' Z14_ (Kd.ycf ho0) hb); have n2_ := Aside0.mk (Kd.ybl (Kd.R_new' (Kd.R_new' ho0 (Kd.R_lt Z21_)) (Kd.R_lt Z14_)) (yaj Z7_)); have n3_ := Aside0.mk (yai Z7_ hb); clear HO_7; clear HO1010; clear HB; have HO_7 := n0_; have HO1010 := n1_; have HO1013 := n2_; have HB := n3_; clear n0_ n1_ n2_ n3_; (try clear hb); (try clear hb2); (try clear hk); (try clear hi); (try clear ho0)) | ((with_reducible refine yar (f := 45) rfl ?_); refine yce (some 26) rfl rfl Try.func45 (by kernel_rfl) rfl #[.slice A1 l1.length c1, .int .i64 x8_1] rfl Z6_ ?_; (with_reducible refine (ydc.calls _ _ l1 x8_1 t1014 _ ?side1 ?side2 A13.out).mono ?_); (case side1 => repeat (first | exact (Kd.ybg HR1.out HB.out) | (with_reducible refine Kd.yau ?_ _) | (with_reducible refine Kd.yaw ?_ _) | (with_reducible refine Kd.ybe ?_))); (case side2 => exact HC1.out); rintro e w' ⟨rfl, ⟨nd, rfl⟩⟩; refine ⟨_, rfl, ?_⟩; obtain ⟨Ao21, co21, eo21⟩ := Kd.ybc HO1013.out; subst eo21) | ((with_reducible refine yar (f := 62) rfl ?_); refine yce (some 30) rfl rfl Try.func62 (by kernel_rfl) rfl #[.slice Ao21 t1011.length co21, .slice A0 l0.length c0] rfl Z6_ ?_; (with_reducible refine (yaf.calls k1 _ _ t1011 _ _ l0 t1015 _ ?side1 ?side2 ?side3 ?side4 A15.out).mono ?_); (case side1 => repeat (first | exact (Kd.R_reads' HO1013.out).2.2 | (with_reducible refine Kd.yau ?_ _) | (with_reducible refine Kd.yaw ?_ _) | (with_reducible refine Kd.ybe ?_))); (case side2 => exact (Kd.R_reads' HO1013.out).2.1); (case side3 => repeat (first | exact (Kd.ybg HR0.out Z7_) | (with_reducible refine Kd.yau ?_ _) | (with_reducible refine Kd.yaw ?_ _) | (with_reducible refine Kd.ybe ?_))); (case side4 => exact HC0.out); rintro e w22 ⟨v1016, rfl, ho0, hb⟩; refine ⟨_, rfl, ?_⟩; have n0_ := Aside0.mk (Kd.R_elder' Z21_ (Kd.ycf ho0) hb); have n1_ := Aside0.mk (Kd.R_elder' Z14_ (Kd.ycf ho0) hb); have n2_ := Aside0.mk (Kd.R_elder' Z15_ (Kd.ycf ho0) hb); have n3_ := Aside0.mk (Kd.ybl (Kd.R_new' (Kd.R_new' (Kd.R_new' ho0 (Kd.R_lt Z21_)) (Kd.R_lt Z14_)) (Kd.R_lt Z15_)) (yaj Z7_)); have n4_ := Aside0.mk (yai Z7_ hb); clear HO_7; clear HO1010; clear HO1013; clear HB; have HO_7 := n0_; have HO1010 := n1_; have HO1013 := n2_; have HO1017 := n3_; have HB := n4_; clear n0_ n1_ n2_ n3_ n4_; (try clear hb); (try clear hb2); (try clear hk); (try clear hi); (try clear ho0); obtain ⟨Ao23, co23, eo23⟩ := Kd.ybc HO1017.out; subst eo23) | ((with_reducible refine yar (f := 61) rfl ?_); refine yce (some 32) rfl rfl Try.func61 (by kernel_rfl) rfl #[.slice Ao23 t1015.length co23, .slice A2 l2.length c2] rfl Z6_ ?_; (with_reducible refine (ycb.calls k1 _ _ t1015 _ _ l2 t1018 _ ?side1 ?side2 ?side3 ?side4 A16.out).mono ?_); (case side1 => repeat (first | exact (Kd.R_reads' HO1017.out).2.2 | (with_reducible refine Kd.yau ?_ _) | (with_reducible refine Kd.yaw ?_ _) | (with_reducible refine Kd.ybe ?_))); (case side2 => exact (Kd.R_reads' HO1017.out).2.1); (case side3 => repeat (first | exact (Kd.ybg HR2.out HB.out) | (with_reducible refine Kd.yau ?_ _) | (with_reducible refine Kd.yaw ?_ _) | (with_reducible refine Kd.ybe ?_))); (case side4 => exact HC2.out); rintro e w24 ⟨v1019, rfl, ho0, hb⟩; refine ⟨_, rfl, ?_⟩; have n0_ := Aside0.mk (Kd.R_elder' Z21_ (Kd.ycf ho0) hb); have n1_ := Aside0.mk (Kd.R_elder' Z14_ (Kd.ycf ho0) hb); have n2_ := Aside0.mk (Kd.R_elder' Z15_ (Kd.ycf ho0) hb); have n3_ := Aside0.mk (Kd.R_elder' (by (with_reducible repeat (first | apply Kd.yba | apply Kd.yaz | apply Kd.ybi)); exact HO1017.out) (Kd.ycf ho0) hb); have n4_ := Aside0.mk (Kd.ybl (Kd.R_new' (Kd.R_new' (Kd.R_new' (Kd.R_new' ho0 (Kd.R_lt Z21_)) (Kd.R_lt Z14_)) (Kd.R_lt Z15_)) (Kd.R_lt (by (with_reducible repeat (first | apply Kd.yba | apply Kd.yaz | apply Kd.ybi)); exact HO1017.out))) (yaj Z7_)); have n5_ := Aside0.mk (yai Z7_ hb); clear HO_7; clear HO1010; clear HO1013; clear HO1017; clear HB; have HO_7 := n0_; have HO1010 := n1_; have HO1013 := n2_; have HO1017 := n3_; have HO1020 := n4_; have HB := n5_; clear n0_ n1_ n2_ n3_ n4_ n5_; (try clear hb); (try clear hb2); (try clear hk); (try clear hi); (try clear ho0)))
       go_roundg k1
       case measure => have := HK1.out; omega
       case rel => exact ⟨(t1018), (wrap64 (x8_1 - 1)), Z27_, H', ⟨by have := HK1.out; omega⟩, ⟨by (with_reducible repeat (first | apply Kd.yba | apply Kd.yaz | apply Kd.ybi)); exact Kd.ycn HO1020.out (fun _ hk => trivial)⟩, ⟨by repeat (first | (with_reducible first | exact HB.out | apply yad | apply yab | apply yac) | exact HB.out)⟩⟩
     · rw [if_neg c14] at H
       have c14b0 : (t1014 == 1) = false := beq_eq_false_iff_ne.mpr c14
       have c14b1 : (t1014 != 1) = true := bne_iff_ne.mpr c14
       have H' := Aside0.mk H
       clear H
       obtain ⟨Ao25, co25, eo25⟩ := Kd.ybc HO_7.out
       subst eo25
       go_wp2_with (first | ((with_reducible refine yar (f := 62) rfl ?_); refine yce (some 21) rfl rfl Try.func62 (by kernel_rfl) rfl #[.slice Ao25 x7_1.length co25, .slice Ao25 x7_1.length co25] rfl Z6_ ?_; (with_reducible refine (yaf.calls k1 _ _ x7_1 _ _ x7_1 t1008 _ ?side1 ?side2 ?side3 ?side4 A11.out).mono ?_); (case side1 => repeat (first | exact (Kd.R_reads' HO_7.out).2.2 | (with_reducible refine Kd.yau ?_ _) | (with_reducible refine Kd.yaw ?_ _) | (with_reducible refine Kd.ybe ?_))); (case side2 => exact (Kd.R_reads' HO_7.out).2.1); (case side3 => repeat (first | exact (Kd.R_reads' HO_7.out).2.2 | (with_reducible refine Kd.yau ?_ _) | (with_reducible refine Kd.yaw ?_ _) | (with_reducible refine Kd.ybe ?_))); (case side4 => exact (Kd.R_reads' HO_7.out).2.1); rintro e w26 ⟨v1009, rfl, ho0, hb⟩; refine ⟨_, rfl, ?_⟩; have n0_ := Aside0.mk (Kd.R_elder' Z21_ (Kd.ycf ho0) hb); have n1_ := Aside0.mk (Kd.ybl (Kd.R_new' ho0 (Kd.R_lt Z21_)) (yaj Z7_)); have n2_ := Aside0.mk (yai Z7_ hb); clear HO_7; clear HB; have HO_7 := n0_; have HO1010 := n1_; have HB := n2_; clear n0_ n1_ n2_; (try clear hb); (try clear hb2); (try clear hk); (try clear hi); (try clear ho0); obtain ⟨Ao27, co27, eo27⟩ := Kd.ybc HO1010.out; subst eo27) | ((with_reducible refine yar (f := 61) rfl ?_); refine yce (some 23) rfl rfl Try.func61 (by kernel_rfl) rfl #[.slice Ao27 t1008.length co27, .slice A2 l2.length c2] rfl Z6_ ?_; (with_reducible refine (ycb.calls k1 _ _ t1008 _ _ l2 t1011 _ ?side1 ?side2 ?side3 ?side4 A12.out).mono ?_); (case side1 => repeat (first | exact (Kd.R_reads' HO1010.out).2.2 | (with_reducible refine Kd.yau ?_ _) | (with_reducible refine Kd.yaw ?_ _) | (with_reducible refine Kd.ybe ?_))); (case side2 => exact (Kd.R_reads' HO1010.out).2.1); (case side3 => repeat (first | exact (Kd.ybg HR2.out HB.out) | (with_reducible refine Kd.yau ?_ _) | (with_reducible refine Kd.yaw ?_ _) | (with_reducible refine Kd.ybe ?_))); (case side4 => exact HC2.out); rintro e w28 ⟨v1012, rfl, ho0, hb⟩; refine ⟨_, rfl, ?_⟩; have n0_ := Aside0.mk (Kd.R_elder' Z21_ (Kd.ycf ho0) hb); have n1_ := Aside0.mk (Kd.R_elder' Z14_ (Kd.ycf ho0) hb); have n2_ := Aside0.mk (Kd.ybl (Kd.R_new' (Kd.R_new' ho0 (Kd.R_lt Z21_)) (Kd.R_lt Z14_)) (yaj Z7_)); have n3_ := Aside0.mk (yai Z7_ hb); clear HO_7; clear HO1010; clear HB; have HO_7 := n0_; have HO1010 := n1_; have HO1013 := n2_; have HB := n3_; clear n0_ n1_ n2_ n3_; (try clear hb); (try clear hb2); (try clear hk); (try clear hi); (try clear ho0)) | ((with_reducible refine yar (f := 45) rfl ?_); refine yce (some 26) rfl rfl Try.func45 (by kernel_rfl) rfl #[.slice A1 l1.length c1, .int .i64 x8_1] rfl Z6_ ?_; (with_reducible refine (ydc.calls _ _ l1 x8_1 t1014 _ ?side1 ?side2 A13.out).mono ?_); (case side1 => repeat (first | exact (Kd.ybg HR1.out HB.out) | (with_reducible refine Kd.yau ?_ _) | (with_reducible refine Kd.yaw ?_ _) | (with_reducible refine Kd.ybe ?_))); (case side2 => exact HC1.out); rintro e w' ⟨rfl, ⟨nd, rfl⟩⟩; refine ⟨_, rfl, ?_⟩))
       go_roundg k1
       case measure => have := HK1.out; omega
       case rel => exact ⟨(t1011), (wrap64 (x8_1 - 1)), Z27_, H', ⟨by have := HK1.out; omega⟩, ⟨by (with_reducible repeat (first | apply Kd.yba | apply Kd.yaz | apply Kd.ybi)); exact Kd.ycn HO1013.out (fun _ hk => trivial)⟩, ⟨by repeat (first | (with_reducible first | exact HB.out | apply yad | apply yab | apply yac) | exact HB.out)⟩⟩
   · rw [if_neg c10] at H
     have c10b0 : decide (0 ≤ x8_1) = false := decide_eq_false c10
     clear c10
     obtain rfl := Option.some.inj H
     go_wp2
     go_ret
     exact ⟨_, by first | rfl | (simp [yap, yao] <;> rfl) | (simp [*, yap, yao] <;> rfl), by (with_reducible repeat (first | apply Kd.yba | apply Kd.yaz | apply Kd.ybi)); exact HO_7.out, by repeat (first | (with_reducible first | exact HB.out | apply yad | apply yab | apply yac) | exact HB.out)⟩
end Go.Proofs.Ytgnaaaliadiekaa.B
end
