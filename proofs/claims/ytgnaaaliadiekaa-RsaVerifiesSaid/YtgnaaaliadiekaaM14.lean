/- A part of the proof (merged by pack.py, a program of this session: what the row's proof names). -/
import Derived.Test.YtgnaaaliadiekaaM4
import Derived.Test.YtgnaaaliadiekaaM11
import Derived.Test.YtgnaaaliadiekaaM0
section
namespace Go.Proofs.Ytgnaaaliadiekaa.B
open Go.RowKit Go.Proofs.YtgnaaaliadiekaaW.PrintWords Go.Proofs.YtgnaaaliadiekaaW.PrintLast Go.Proofs.YtgnaaaliadiekaaW.PrintMore
attribute [local go_sem] ycj ych ycs ycr ybw ybv yci ycg   -- for this text's walks alone
attribute [local go_sem] yca ybn ybz ybm
set_option linter.unusedVariables false
set_option linter.unusedSimpArgs false
def yfi.f (k : Nat) (a0 : Int) : Option (List Int) := (ybr.f k (([a0] : List Int))).bind fun t1004 => (some t1004)
set_option maxHeartbeats 8000000 in
set_option maxRecDepth 100000 in
theorem yfi.calls (k : Nat) (a0 : Int) (r : List Int) (w : World) (h : yfi.f k a0 = some r) :
 Calls Try.prog 39 #[.int .u64 a0] w fun e w' => ∃ v0_ : Value, e = .returned (v0_) ∧ Kd.R (Kd.int .u64) 61 w' w.heap.size (fun _ => True) v0_ r ∧ Below w.heap.size w w' := by
 have HB := Aside0.mk (Below.refl w.heap.size w)
 have H : ((ybr.f k (([a0] : List Int))).bind fun t1004 => (some t1004)) = some r := h
 clear h
 obtain ⟨y1001, hy1001⟩ : ∃ y_ : List Int, y_ = (([a0] : List Int)) := ⟨_, rfl⟩
 replace H : ((ybr.f k y1001).bind fun t1004 => (some t1004)) = some r := by first | (rw [hy1001]; with_reducible exact H) | (have H2_ := (Option.bind_some _ _).symm.trans H; rw [hy1001]; with_reducible exact H2_) | (have H2_ := (Option.bind_some _ _).symm.trans H; with_reducible exact H2_) | with_reducible exact H | (rw [hy1001]; exact H) | exact H
 have Ny1001 := Aside0.mk hy1001
 clear hy1001
 replace H := Option.bind_eq_some_iff.mp H
 obtain ⟨t1004, A20, H⟩ := H
 replace H : (some t1004) = some r := H
 have A2 := Aside0.mk A20
 clear A20
 obtain rfl := Option.some.inj H
 go_enter Try.func39, Try.ntmps39
 go_wp2_with (first | ((with_reducible refine ybu (N := 4) rfl ?_); refine Kd.R_lit (Kd.int .u64) _ 61 ?hg (N := 4) ?hd (xs := ([a0] : List Int)) (inner := [.int .u64 a0]) (ok := fun _ => True) (okp := fun _ => True) ?hr ?hp (fun _ hk => hk) trivial (Below.refl _ _) (Nat.le_refl _) (by simp) ?_; (case hd => rfl); (case hg => rfl); (case hr => first | (go_simp; done) | (go_simp; rfl)); (case hp => exact (Reps.one (show Kd.M (Kd.int .u64) _ _ _ a0 [.int .u64 a0] from rfl) (Reps.none _ _))); intro v1002 w3 ho4 hb hg_ hnew_; clear hg_ hnew_; (first | rw [← Ny1001.out] at ho4 | (simp only [Int.reduceToNat] at ho4; rw [← Ny1001.out] at ho4)); have n0_ := Aside0.mk (Kd.ybl ho4 (yaj Z7_)); have n1_ := Aside0.mk (yai Z7_ hb); clear HB; have HO1003 := n0_; have HB := n1_; clear n0_ n1_; clear hb ho4; obtain ⟨Ao5, co5, eo5⟩ := Kd.ybc HO1003.out; subst eo5) | ((with_reducible refine yar (f := 54) rfl ?_); refine yce (some 5) rfl rfl Try.func54 (by kernel_rfl) rfl #[.slice Ao5 y1001.length co5] rfl Z6_ ?_; (with_reducible refine (ybr.calls k _ _ y1001 t1004 _ ?side1 ?side2 A2.out).mono ?_); (case side1 => repeat (first | exact (Kd.R_reads' HO1003.out).2.2 | (with_reducible refine Kd.yau ?_ _) | (with_reducible refine Kd.yaw ?_ _) | (with_reducible refine Kd.ybe ?_))); (case side2 => exact (Kd.R_reads' HO1003.out).2.1); rintro e w6 ⟨v1005, rfl, ho0, hb⟩; refine ⟨_, rfl, ?_⟩; have n0_ := Aside0.mk (Kd.R_elder' Z9_ (Kd.ycf ho0) hb); have n1_ := Aside0.mk (Kd.ybl (Kd.R_new' ho0 (Kd.R_lt Z9_)) (yaj Z7_)); have n2_ := Aside0.mk (yai Z7_ hb); clear HO1003; clear HB; have HO1003 := n0_; have HO1006 := n1_; have HB := n2_; clear n0_ n1_ n2_; (try clear hb); (try clear hb2); (try clear hk); (try clear hi); (try clear ho0)))
 go_ret
 exact ⟨_, by first | rfl | (simp [yap, yao] <;> rfl) | (simp [*, yap, yao] <;> rfl), by (with_reducible repeat (first | apply Kd.yba | apply Kd.yaz | apply Kd.ybi)); exact Kd.ycn HO1006.out (fun _ hk => trivial), by repeat (first | (with_reducible first | exact HB.out | apply yad | apply yab | apply yac) | exact HB.out)⟩
end Go.Proofs.Ytgnaaaliadiekaa.B
end
section
namespace Go.Proofs.Ytgnaaaliadiekaa.B
open Go.RowKit Go.Proofs.YtgnaaaliadiekaaW.PrintWords Go.Proofs.YtgnaaaliadiekaaW.PrintLast Go.Proofs.YtgnaaaliadiekaaW.PrintMore
attribute [local go_sem] ycj ych ycs ycr ybw ybv yci ycg   -- for this text's walks alone
attribute [local go_sem] yca ybn ybz ybm
set_option linter.unusedVariables false
set_option linter.unusedSimpArgs false
def yef.f (l0 : List Int) (a1 : Int) : Option (Int) := if a1 < (l0.length : Int) then (if 0 ≤ a1 then (some (rd l0 a1)) else (none)) else (some 0)
set_option maxHeartbeats 8000000 in
set_option maxRecDepth 100000 in
theorem yef.calls (A0 : Option Addr) (c0 : Nat) (l0 : List Int) (a1 : Int) (r : Int) (w : World) (hr0 : Kd.C (Kd.int .u64) w A0 l0.length l0) (hc0 : l0.length ≤ c0) (h : yef.f l0 a1 = some r) :
 Calls Try.prog 70 #[.slice A0 l0.length c0, .int .i64 a1] w fun e w' => e = .returned (.int .u64 r) ∧ ybj w w' := by
 have HR0 := Aside0.mk hr0
 have HC0 := Aside0.mk hc0
 clear hr0 hc0
 have H : (if a1 < (l0.length : Int) then (if 0 ≤ a1 then (some (rd l0 a1)) else (none)) else (some 0)) = some r := h
 clear h
 by_cases c3 : a1 < (l0.length : Int)
 · rw [if_pos c3] at H
   have c3b0 : decide (a1 < (l0.length : Int)) = true := decide_eq_true c3
   clear c3
   by_cases c4 : 0 ≤ a1
   · rw [if_pos c4] at H
     have c4b0 : decide (0 ≤ a1) = true := decide_eq_true c4
     clear c4
     obtain rfl := Option.some.inj H
     have p1001 : 0 ≤ (a1 : Int) := of_decide_eq_true Z26_
     have q1001 : a1 < (l0.length : Int) := of_decide_eq_true Z26_
     obtain ⟨ad1001, e1001, hx1001_0⟩ := Kd.ybs HR0.out a1 p1001 q1001
     cases e1001
     replace p1001 := eq_true p1001
     replace q1001 := eq_true q1001
     go_enter Try.func70, Try.ntmps70
     go_wp2
     go_ret
     exact ⟨by first | rfl | (simp; done) | (simp [*]; done), by repeat (first | exact ybj.refl _ | apply ybj.step)⟩
   · rw [if_neg c4] at H
     exact absurd H (by simp)
 · rw [if_neg c3] at H
   have c3b0 : decide (a1 < (l0.length : Int)) = false := decide_eq_false c3
   clear c3
   obtain rfl := Option.some.inj H
   go_enter Try.func70, Try.ntmps70
   go_wp2
   go_ret
   exact ⟨by first | rfl | (simp; done) | (simp [*]; done), by repeat (first | exact ybj.refl _ | apply ybj.step)⟩
end Go.Proofs.Ytgnaaaliadiekaa.B
end
section
namespace Go.Proofs.Ytgnaaaliadiekaa.B
open Go.RowKit Go.Proofs.YtgnaaaliadiekaaW.PrintWords Go.Proofs.YtgnaaaliadiekaaW.PrintLast Go.Proofs.YtgnaaaliadiekaaW.PrintMore
attribute [local go_sem] ycj ych ycs ycr ybw ybv yci ycg   -- for this text's walks alone
attribute [local go_sem] yca ybn ybz ybm
set_option linter.unusedVariables false
set_option linter.unusedSimpArgs false
def yco.l0 : Nat → List Int → List Int → Int → Option (Int)
 | 0, _, _, _ => none
 | k + 1, x0, x1, x5 => if x5 ≥ 0 then ((yef.f x0 x5).bind fun t1001 => ((yef.f x1 x5).bind fun t1002 => (if t1001 < t1002 then (some (-1)) else (if t1001 > t1002 then (some 1) else (yco.l0 k x0 x1 (wrap64 (x5 - 1))))))) else (some 0)
def yco.f (k : Nat) (l0 : List Int) (l1 : List Int) : Option (Int) := yco.l0 k l0 l1 (wrap64 ((mx (l0.length : Int) (l1.length : Int)) - 1))
set_option maxHeartbeats 8000000 in
set_option maxRecDepth 100000 in
theorem yco.calls (k : Nat) (A0 : Option Addr) (c0 : Nat) (l0 : List Int) (A1 : Option Addr) (c1 : Nat) (l1 : List Int) (r : Int) (w : World) (hr0 : Kd.C (Kd.int .u64) w A0 l0.length l0) (hc0 : l0.length ≤ c0) (hr1 : Kd.C (Kd.int .u64) w A1 l1.length l1) (hc1 : l1.length ≤ c1) (h : yco.f k l0 l1 = some r) :
 Calls Try.prog 42 #[.slice A0 l0.length c0, .slice A1 l1.length c1] w fun e w' => e = .returned (.int .i64 r) ∧ Below w.heap.size w w' := by
 have HR0 := Aside0.mk hr0
 have HC0 := Aside0.mk hc0
 clear hr0 hc0
 have HR1 := Aside0.mk hr1
 have HC1 := Aside0.mk hc1
 clear hr1 hc1
 have HB := Aside0.mk (Below.refl w.heap.size w)
 have H : (yco.l0 k l0 l1 (wrap64 ((mx (l0.length : Int) (l1.length : Int)) - 1))) = some r := h
 clear h
 obtain ⟨ji3, hji3⟩ : ∃ j_ : Int, (mx (l0.length : Int) (l1.length : Int)) = j_ := ⟨_, rfl⟩
 replace H : (yco.l0 k l0 l1 (wrap64 ((ji3) - 1))) = some r := by first | (rw [hji3] at H; exact H) | (simp only [hji3] at H ⊢; exact H)
 (try (have hji3l : 0 ≤ ji3 := by (rw [← hji3]; unfold mx; (repeat' split) <;> omega)))
 (try (have hji3m : 0 ≤ ji3 := by omega))
 have hji3_ : (if (l0.length : Int) < (l1.length : Int) then (l1.length : Int) else (l0.length : Int)) = ji3 := hji3
 have hji3n_ : (if l0.length < l1.length then (l1.length : Int) else (l0.length : Int)) = ji3 := by rw [← hji3_]; simp only [Int.ofNat_lt]
 have H' := Aside0.mk H
 clear H
 go_enter Try.func42, Try.ntmps42
 go_wp2
 go_loopg [5] k (fun kq v5 w' => ∃ (x5_1 : Int), v5 = .int .i64 x5_1 ∧ Aside0 (yco.l0 kq l0 l1 x5_1 = some r) ∧ Aside0 (kq ≤ k) ∧ Aside0 (Below w.heap.size w w'))
 case atStart => exact ⟨(wrap64 ((ji3) - 1)), Z25_, H', ⟨Nat.le_refl _⟩, ⟨by repeat (first | (with_reducible first | exact HB.out | apply yad | apply yab | apply yac) | exact HB.out)⟩⟩
 case round =>
  clear H'
  try clear c1
  try clear p2
  obtain ⟨x5_1, rfl, HA, HK1, HB⟩ := hrel
  cases gk with
  | zero => exact absurd HA.out (by simp [yco.l0])
  | succ k1 =>
   have H := HA.out
   clear HA
   simp only [yco.l0] at H
   by_cases c4 : x5_1 ≥ 0
   · rw [if_pos c4] at H
     have c4b0 : decide (0 ≤ x5_1) = true := decide_eq_true c4
     clear c4
     replace H := Option.bind_eq_some_iff.mp H
     obtain ⟨t1001, A50, H⟩ := H
     replace H : ((yef.f l1 x5_1).bind fun t1002 => (if t1001 < t1002 then (some (-1)) else (if t1001 > t1002 then (some 1) else (yco.l0 k1 l0 l1 (wrap64 (x5_1 - 1)))))) = some r := H
     have A5 := Aside0.mk A50
     clear A50
     replace H := Option.bind_eq_some_iff.mp H
     obtain ⟨t1002, A60, H⟩ := H
     replace H : (if t1001 < t1002 then (some (-1)) else (if t1001 > t1002 then (some 1) else (yco.l0 k1 l0 l1 (wrap64 (x5_1 - 1))))) = some r := H
     have A6 := Aside0.mk A60
     clear A60
     by_cases c7 : t1001 < t1002
     · rw [if_pos c7] at H
       have c7b0 : decide (t1001 < t1002) = true := decide_eq_true c7
       clear c7
       obtain rfl := Option.some.inj H
       go_wp2_with (first | ((with_reducible refine yar (f := 70) rfl ?_); refine yce (some 20) rfl rfl Try.func70 (by kernel_rfl) rfl #[.slice A0 l0.length c0, .int .i64 x5_1] rfl Z6_ ?_; (with_reducible refine (yef.calls _ _ l0 x5_1 t1001 _ ?side1 ?side2 A5.out).mono ?_); (case side1 => repeat (first | exact (Kd.ybg HR0.out HB.out) | (with_reducible refine Kd.yau ?_ _) | (with_reducible refine Kd.yaw ?_ _) | (with_reducible refine Kd.ybe ?_))); (case side2 => exact HC0.out); rintro e w' ⟨rfl, ⟨nd, rfl⟩⟩; refine ⟨_, rfl, ?_⟩) | ((with_reducible refine yar (f := 70) rfl ?_); refine yce (some 23) rfl rfl Try.func70 (by kernel_rfl) rfl #[.slice A1 l1.length c1, .int .i64 x5_1] rfl Z6_ ?_; (with_reducible refine (yef.calls _ _ l1 x5_1 t1002 _ ?side1 ?side2 A6.out).mono ?_); (case side1 => repeat (first | exact (Kd.ybg HR1.out Z7_) | (with_reducible refine Kd.yau ?_ _) | (with_reducible refine Kd.yaw ?_ _) | (with_reducible refine Kd.ybe ?_))); (case side2 => exact HC1.out); rintro e w' ⟨rfl, ⟨nd, rfl⟩⟩; refine ⟨_, rfl, ?_⟩))
       go_ret
       exact ⟨by first | rfl | (simp [yap, yao] <;> rfl) | (simp only [← hji3]; first | rfl | (simp [yap, yao] <;> rfl)) | (simp [*, yap, yao] <;> rfl), by repeat (first | (with_reducible first | exact HB.out | apply yad | apply yab | apply yac) | exact HB.out)⟩
     · rw [if_neg c7] at H
       have c7b0 : decide (t1001 < t1002) = false := decide_eq_false c7
       clear c7
       by_cases c8 : t1001 > t1002
       · rw [if_pos c8] at H
         have c8b0 : decide (t1002 < t1001) = true := decide_eq_true c8
         clear c8
         obtain rfl := Option.some.inj H
         go_wp2_with (first | ((with_reducible refine yar (f := 70) rfl ?_); refine yce (some 20) rfl rfl Try.func70 (by kernel_rfl) rfl #[.slice A0 l0.length c0, .int .i64 x5_1] rfl Z6_ ?_; (with_reducible refine (yef.calls _ _ l0 x5_1 t1001 _ ?side1 ?side2 A5.out).mono ?_); (case side1 => repeat (first | exact (Kd.ybg HR0.out HB.out) | (with_reducible refine Kd.yau ?_ _) | (with_reducible refine Kd.yaw ?_ _) | (with_reducible refine Kd.ybe ?_))); (case side2 => exact HC0.out); rintro e w' ⟨rfl, ⟨nd, rfl⟩⟩; refine ⟨_, rfl, ?_⟩) | ((with_reducible refine yar (f := 70) rfl ?_); refine yce (some 23) rfl rfl Try.func70 (by kernel_rfl) rfl #[.slice A1 l1.length c1, .int .i64 x5_1] rfl Z6_ ?_; (with_reducible refine (yef.calls _ _ l1 x5_1 t1002 _ ?side1 ?side2 A6.out).mono ?_); (case side1 => repeat (first | exact (Kd.ybg HR1.out Z7_) | (with_reducible refine Kd.yau ?_ _) | (with_reducible refine Kd.yaw ?_ _) | (with_reducible refine Kd.ybe ?_))); (case side2 => exact HC1.out); rintro e w' ⟨rfl, ⟨nd, rfl⟩⟩; refine ⟨_, rfl, ?_⟩))
         go_ret
         exact ⟨by first | rfl | (simp [yap, yao] <;> rfl) | (simp only [← hji3]; first | rfl | (simp [yap, yao] <;> rfl)) | (simp [*, yap, yao] <;> rfl), by repeat (first | (with_reducible first | exact HB.out | apply yad | apply yab | apply yac) | exact HB.out)⟩
       · rw [if_neg c8] at H
         have c8b0 : decide (t1002 < t1001) = false := decide_eq_false c8
         clear c8
         have H' := Aside0.mk H
         clear H
         go_wp2_with (first | ((with_reducible refine yar (f := 70) rfl ?_); refine yce (some 20) rfl rfl Try.func70 (by kernel_rfl) rfl #[.slice A0 l0.length c0, .int .i64 x5_1] rfl Z6_ ?_; (with_reducible refine (yef.calls _ _ l0 x5_1 t1001 _ ?side1 ?side2 A5.out).mono ?_); (case side1 => repeat (first | exact (Kd.ybg HR0.out HB.out) | (with_reducible refine Kd.yau ?_ _) | (with_reducible refine Kd.yaw ?_ _) | (with_reducible refine Kd.ybe ?_))); (case side2 => exact HC0.out); rintro e w' ⟨rfl, ⟨nd, rfl⟩⟩; refine ⟨_, rfl, ?_⟩) | ((with_reducible refine yar (f := 70) rfl ?_); refine yce (some 23) rfl rfl Try.func70 (by kernel_rfl) rfl #[.slice A1 l1.length c1, .int .i64 x5_1] rfl Z6_ ?_; (with_reducible refine (yef.calls _ _ l1 x5_1 t1002 _ ?side1 ?side2 A6.out).mono ?_); (case side1 => repeat (first | exact (Kd.ybg HR1.out Z7_) | (with_reducible refine Kd.yau ?_ _) | (with_reducible refine Kd.yaw ?_ _) | (with_reducible refine Kd.ybe ?_))); (case side2 => exact HC1.out); rintro e w' ⟨rfl, ⟨nd, rfl⟩⟩; refine ⟨_, rfl, ?_⟩))
         go_roundg k1
         case measure => have := HK1.out; omega
         case rel => exact ⟨(wrap64 (x5_1 - 1)), Z27_, H', ⟨by have := HK1.out; omega⟩, ⟨by repeat (first | (with_reducible first | exact HB.out | apply yad | apply yab | apply yac) | exact HB.out)⟩⟩
   · rw [if_neg c4] at H
     have c4b0 : decide (0 ≤ x5_1) = false := decide_eq_false c4
     clear c4
     obtain rfl := Option.some.inj H
     go_wp2
     go_ret
     exact ⟨by first | rfl | (simp [yap, yao] <;> rfl) | (simp only [← hji3]; first | rfl | (simp [yap, yao] <;> rfl)) | (simp [*, yap, yao] <;> rfl), by repeat (first | (with_reducible first | exact HB.out | apply yad | apply yab | apply yac) | exact HB.out)⟩
end Go.Proofs.Ytgnaaaliadiekaa.B
end
section
namespace Go.Proofs.Ytgnaaaliadiekaa.B
open Go.RowKit Go.Proofs.YtgnaaaliadiekaaW.PrintWords Go.Proofs.YtgnaaaliadiekaaW.PrintLast Go.Proofs.YtgnaaaliadiekaaW.PrintMore
attribute [local go_sem] ycj ych ycs ycr ybw ybv yci ycg   -- for this text's walks alone
attribute [local go_sem] yca ybn ybz ybm
set_option linter.unusedVariables false
set_option linter.unusedSimpArgs false
def yas.l0 : Nat → List Int → List Int → Int → Option (Int)
 | 0, _, _, _ => none
 | k + 1, x0, x1, x5 => if x5 ≥ 0 then (if 0 ≤ x5 then (if x5 < (x0.length : Int) then (if x5 < (x1.length : Int) then (if (rd x0 x5) < (rd x1 x5) then (some (-1)) else (if (rd x0 x5) > (rd x1 x5) then (some 1) else (yas.l0 k x0 x1 (wrap64 (x5 - 1))))) else (none)) else (none)) else (none)) else (some 0)
def yas.f (k : Nat) (l0 : List Int) (l1 : List Int) : Option (Int) := if (l0.length : Int) = (l1.length : Int) then (yas.l0 k l0 l1 (wrap64 ((l0.length : Int) - 1))) else (if (l0.length : Int) < (l1.length : Int) then (some (-1)) else (some 1))
set_option maxHeartbeats 8000000 in
set_option maxRecDepth 100000 in
theorem yas.calls (k : Nat) (A0 : Option Addr) (c0 : Nat) (l0 : List Int) (A1 : Option Addr) (c1 : Nat) (l1 : List Int) (r : Int) (w : World) (hr0 : Kd.C (Kd.int .i64) w A0 l0.length l0) (hc0 : l0.length ≤ c0) (hr1 : Kd.C (Kd.int .i64) w A1 l1.length l1) (hc1 : l1.length ≤ c1) (h : yas.f k l0 l1 = some r) :
 Calls Try.prog 63 #[.slice A0 l0.length c0, .slice A1 l1.length c1] w fun e w' => e = .returned (.int .i64 r) ∧ ybj w w' := by
 have HR0 := Aside0.mk hr0
 have HC0 := Aside0.mk hc0
 clear hr0 hc0
 have HR1 := Aside0.mk hr1
 have HC1 := Aside0.mk hc1
 clear hr1 hc1
 have H : (if (l0.length : Int) = (l1.length : Int) then (yas.l0 k l0 l1 (wrap64 ((l0.length : Int) - 1))) else (if (l0.length : Int) < (l1.length : Int) then (some (-1)) else (some 1))) = some r := h
 clear h
 by_cases c3 : (l0.length : Int) = (l1.length : Int)
 · rw [if_pos c3] at H
   have c3b0 : ((l0.length : Int) == (l1.length : Int)) = true := beq_iff_eq.mpr c3
   have c3b1 : ((l0.length : Int) != (l1.length : Int)) = false := bne_eq_false_iff_eq.mpr c3
   have c3b2 : (l0.length == l1.length) = true := by first | simpa using c3 | (simp at c3 ⊢; omega)
   clear c3
   have H' := Aside0.mk H
   clear H
   go_enter Try.func63, Try.ntmps63
   go_wp2
   repeat (go_quiet (fail); try go_wp2)
   go_loopg [5] k (fun kq v5 w' => ∃ (x5_1 : Int), v5 = .int .i64 x5_1 ∧ Aside0 (yas.l0 kq l0 l1 x5_1 = some r) ∧ Aside0 (kq ≤ k) ∧ ybj w w')
   case atStart => exact ⟨(wrap64 ((l0.length : Int) - 1)), Z27_, H', ⟨Nat.le_refl _⟩, by repeat (first | exact ybj.refl _ | apply ybj.step)⟩
   case round =>
    clear H'
    try clear c1
    try clear p2
    try clear c3
    try clear c3b0
    try clear c3b1
    try clear c3b2
    obtain ⟨x5_1, rfl, HA, HK1, ⟨m1, rfl⟩⟩ := hrel
    cases gk with
    | zero => exact absurd HA.out (by simp [yas.l0])
    | succ k1 =>
     have H := HA.out
     clear HA
     simp only [yas.l0] at H
     by_cases c4 : x5_1 ≥ 0
     · rw [if_pos c4] at H
       have c4b0 : decide (0 ≤ x5_1) = true := decide_eq_true c4
       clear c4
       by_cases c5 : 0 ≤ x5_1
       · rw [if_pos c5] at H
         have c5b0 : decide (0 ≤ x5_1) = true := decide_eq_true c5
         clear c5
         by_cases c6 : x5_1 < (l0.length : Int)
         · rw [if_pos c6] at H
           have c6b0 : decide (x5_1 < (l0.length : Int)) = true := decide_eq_true c6
           clear c6
           by_cases c7 : x5_1 < (l1.length : Int)
           · rw [if_pos c7] at H
             have c7b0 : decide (x5_1 < (l1.length : Int)) = true := decide_eq_true c7
             clear c7
             by_cases c8 : (rd l0 x5_1) < (rd l1 x5_1)
             · rw [if_pos c8] at H
               have c8b0 : decide ((rd l0 x5_1) < (rd l1 x5_1)) = true := decide_eq_true c8
               clear c8
               obtain rfl := Option.some.inj H
               have p1001 : 0 ≤ (x5_1 : Int) := of_decide_eq_true Z26_
               have q1001 : x5_1 < (l0.length : Int) := of_decide_eq_true Z26_
               obtain ⟨ad1001, e1001, hx1001_0⟩ := Kd.ybs HR0.out x5_1 p1001 q1001
               cases e1001
               replace p1001 := eq_true p1001
               replace q1001 := eq_true q1001
               have p1002 : 0 ≤ (x5_1 : Int) := of_decide_eq_true Z26_
               have q1002 : x5_1 < (l1.length : Int) := of_decide_eq_true Z26_
               obtain ⟨ad1002, e1002, hx1002_0⟩ := Kd.ybs HR1.out x5_1 p1002 q1002
               cases e1002
               replace p1002 := eq_true p1002
               replace q1002 := eq_true q1002
               go_wp2
               repeat (go_quiet (fail); try go_wp2)
               go_ret
               exact ⟨by first | rfl | (simp; done) | (simp [*]; done), by repeat (first | exact ybj.refl _ | apply ybj.step)⟩
             · rw [if_neg c8] at H
               have c8b0 : decide ((rd l0 x5_1) < (rd l1 x5_1)) = false := decide_eq_false c8
               clear c8
               by_cases c9 : (rd l0 x5_1) > (rd l1 x5_1)
               · rw [if_pos c9] at H
                 have c9b0 : decide ((rd l1 x5_1) < (rd l0 x5_1)) = true := decide_eq_true c9
                 clear c9
                 obtain rfl := Option.some.inj H
                 have p1001 : 0 ≤ (x5_1 : Int) := of_decide_eq_true Z26_
                 have q1001 : x5_1 < (l0.length : Int) := of_decide_eq_true Z26_
                 obtain ⟨ad1001, e1001, hx1001_0⟩ := Kd.ybs HR0.out x5_1 p1001 q1001
                 cases e1001
                 replace p1001 := eq_true p1001
                 replace q1001 := eq_true q1001
                 have p1002 : 0 ≤ (x5_1 : Int) := of_decide_eq_true Z26_
                 have q1002 : x5_1 < (l1.length : Int) := of_decide_eq_true Z26_
                 obtain ⟨ad1002, e1002, hx1002_0⟩ := Kd.ybs HR1.out x5_1 p1002 q1002
                 cases e1002
                 replace p1002 := eq_true p1002
                 replace q1002 := eq_true q1002
                 have p1003 : 0 ≤ (x5_1 : Int) := of_decide_eq_true Z26_
                 have q1003 : x5_1 < (l0.length : Int) := of_decide_eq_true Z26_
                 obtain ⟨ad1003, e1003, hx1003_0⟩ := Kd.ybs HR0.out x5_1 p1003 q1003
                 obtain rfl : ad1001 = ad1003 := (by injection e1003)
                 replace p1003 := eq_true p1003
                 replace q1003 := eq_true q1003
                 have p1004 : 0 ≤ (x5_1 : Int) := of_decide_eq_true Z26_
                 have q1004 : x5_1 < (l1.length : Int) := of_decide_eq_true Z26_
                 obtain ⟨ad1004, e1004, hx1004_0⟩ := Kd.ybs HR1.out x5_1 p1004 q1004
                 obtain rfl : ad1002 = ad1004 := (by injection e1004)
                 replace p1004 := eq_true p1004
                 replace q1004 := eq_true q1004
                 go_wp2
                 repeat (go_quiet (fail); try go_wp2)
                 go_ret
                 exact ⟨by first | rfl | (simp; done) | (simp [*]; done), by repeat (first | exact ybj.refl _ | apply ybj.step)⟩
               · rw [if_neg c9] at H
                 have c9b0 : decide ((rd l1 x5_1) < (rd l0 x5_1)) = false := decide_eq_false c9
                 clear c9
                 have H' := Aside0.mk H
                 clear H
                 have p1001 : 0 ≤ (x5_1 : Int) := of_decide_eq_true Z26_
                 have q1001 : x5_1 < (l0.length : Int) := of_decide_eq_true Z26_
                 obtain ⟨ad1001, e1001, hx1001_0⟩ := Kd.ybs HR0.out x5_1 p1001 q1001
                 cases e1001
                 replace p1001 := eq_true p1001
                 replace q1001 := eq_true q1001
                 have p1002 : 0 ≤ (x5_1 : Int) := of_decide_eq_true Z26_
                 have q1002 : x5_1 < (l1.length : Int) := of_decide_eq_true Z26_
                 obtain ⟨ad1002, e1002, hx1002_0⟩ := Kd.ybs HR1.out x5_1 p1002 q1002
                 cases e1002
                 replace p1002 := eq_true p1002
                 replace q1002 := eq_true q1002
                 have p1003 : 0 ≤ (x5_1 : Int) := of_decide_eq_true Z26_
                 have q1003 : x5_1 < (l0.length : Int) := of_decide_eq_true Z26_
                 obtain ⟨ad1003, e1003, hx1003_0⟩ := Kd.ybs HR0.out x5_1 p1003 q1003
                 obtain rfl : ad1001 = ad1003 := (by injection e1003)
                 replace p1003 := eq_true p1003
                 replace q1003 := eq_true q1003
                 have p1004 : 0 ≤ (x5_1 : Int) := of_decide_eq_true Z26_
                 have q1004 : x5_1 < (l1.length : Int) := of_decide_eq_true Z26_
                 obtain ⟨ad1004, e1004, hx1004_0⟩ := Kd.ybs HR1.out x5_1 p1004 q1004
                 obtain rfl : ad1002 = ad1004 := (by injection e1004)
                 replace p1004 := eq_true p1004
                 replace q1004 := eq_true q1004
                 go_wp2
                 repeat (go_quiet (fail); try go_wp2)
                 go_roundg k1
                 case measure => have := HK1.out; omega
                 case rel => exact ⟨(wrap64 (x5_1 - 1)), Z27_, H', ⟨by have := HK1.out; omega⟩, by repeat (first | exact ybj.refl _ | apply ybj.step)⟩
           · rw [if_neg c7] at H
             exact absurd H (by simp)
         · rw [if_neg c6] at H
           exact absurd H (by simp)
       · rw [if_neg c5] at H
         exact absurd H (by simp)
     · rw [if_neg c4] at H
       have c4b0 : decide (0 ≤ x5_1) = false := decide_eq_false c4
       clear c4
       obtain rfl := Option.some.inj H
       go_wp2
       repeat (go_quiet (fail); try go_wp2)
       go_ret
       exact ⟨by first | rfl | (simp; done) | (simp [*]; done), by repeat (first | exact ybj.refl _ | apply ybj.step)⟩
 · rw [if_neg c3] at H
   have c3b0 : ((l0.length : Int) == (l1.length : Int)) = false := beq_eq_false_iff_ne.mpr c3
   have c3b1 : ((l0.length : Int) != (l1.length : Int)) = true := bne_iff_ne.mpr c3
   have c3b2 : (l0.length == l1.length) = false := by first | simpa using c3 | (simp at c3 ⊢; omega)
   by_cases c10 : (l0.length : Int) < (l1.length : Int)
   · rw [if_pos c10] at H
     have c10b0 : decide ((l0.length : Int) < (l1.length : Int)) = true := decide_eq_true c10
     have c10b1 : decide (l0.length < l1.length) = true := decide_eq_true (Int.ofNat_lt.mp c10)
     clear c10
     obtain rfl := Option.some.inj H
     go_enter Try.func63, Try.ntmps63
     go_wp2
     repeat (go_quiet (fail); try go_wp2)
     go_ret
     exact ⟨by first | rfl | (simp; done) | (simp [*]; done), by repeat (first | exact ybj.refl _ | apply ybj.step)⟩
   · rw [if_neg c10] at H
     have c10b0 : decide ((l0.length : Int) < (l1.length : Int)) = false := decide_eq_false c10
     have c10b1 : decide (l0.length < l1.length) = false := decide_eq_false (fun h => c10 (Int.ofNat_lt.mpr h))
     clear c10
     obtain rfl := Option.some.inj H
     go_enter Try.func63, Try.ntmps63
     go_wp2
     repeat (go_quiet (fail); try go_wp2)
     go_ret
     exact ⟨by first | rfl | (simp; done) | (simp [*]; done), by repeat (first | exact ybj.refl _ | apply ybj.step)⟩
end Go.Proofs.Ytgnaaaliadiekaa.B
end
