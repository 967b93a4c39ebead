/- A part of the proof (merged by pack.py, a program of this session: what the row's proof names). -/
import Derived.Test.YtgnaaaliadiekaaM4
import Derived.Test.YtgnaaaliadiekaaM10
import Derived.Test.YtgnaaaliadiekaaM0
section
namespace Go.Proofs.Ytgnaaaliadiekaa.B
open Go.RowKit Go.Proofs.YtgnaaaliadiekaaW.PrintWords Go.Proofs.YtgnaaaliadiekaaW.PrintLast Go.Proofs.YtgnaaaliadiekaaW.PrintMore
attribute [local go_sem] ycj ych ycs ycr ybw ybv yci ycg   -- for this text's walks alone
attribute [local go_sem] yca ybn ybz ybm
set_option linter.unusedVariables false
set_option linter.unusedSimpArgs false
def ybr.l0 : Nat → List Int → Int → Option (List Int)
 | 0, _, _ => none
 | k + 1, x0, x3 => if x3 > 0 then (if 0 ≤ (wrap64 (x3 - 1)) then (if (wrap64 (x3 - 1)) < (x0.length : Int) then (if (rd x0 (wrap64 (x3 - 1))) = 0 then (ybr.l0 k x0 (wrap64 (x3 - 1))) else (if 0 ≤ x3 then (if x3 ≤ (x0.length : Int) then ((ycx.f (x0.take (x3 : Int).toNat)).bind fun t1003 => (some t1003)) else (none)) else (none))) else (none)) else (none)) else (if 0 ≤ x3 then (if x3 ≤ (x0.length : Int) then ((ycx.f (x0.take (x3 : Int).toNat)).bind fun t1007 => (some t1007)) else (none)) else (none))
def ybr.f (k : Nat) (l0 : List Int) : Option (List Int) := ybr.l0 k l0 (l0.length : Int)
set_option maxHeartbeats 8000000 in
set_option maxRecDepth 100000 in
theorem ybr.calls (k : Nat) (A0 : Option Addr) (c0 : Nat) (l0 : List Int) (r : List Int) (w : World) (hr0 : Kd.C (Kd.int .u64) w A0 l0.length l0) (hc0 : l0.length ≤ c0) (h : ybr.f k l0 = some r) :
 Calls Try.prog 54 #[.slice A0 l0.length c0] w fun e w' => ∃ v0_ : Value, e = .returned (v0_) ∧ Kd.R (Kd.int .u64) 61 w' w.heap.size (fun _ => True) v0_ r ∧ Below w.heap.size w w' := by
 have HR0 := Aside0.mk hr0
 have HC0 := Aside0.mk hc0
 clear hr0 hc0
 have HB := Aside0.mk (Below.refl w.heap.size w)
 have H : (ybr.l0 k l0 (l0.length : Int)) = some r := h
 clear h
 have H' := Aside0.mk H
 clear H
 go_enter Try.func54, Try.ntmps54
 go_wp2
 go_loopg [3] k (fun kq v3 w' => ∃ (x3_1 : Int), v3 = .int .i64 x3_1 ∧ Aside0 (ybr.l0 kq l0 x3_1 = some r) ∧ Aside0 (kq ≤ k) ∧ Aside0 (Below w.heap.size w w'))
 case atStart => exact ⟨((l0.length : Int)), Z27_, H', ⟨Nat.le_refl _⟩, ⟨by repeat (first | (with_reducible first | exact HB.out | apply yad | apply yab | apply yac) | exact HB.out)⟩⟩
 case round =>
  clear H'
  obtain ⟨x3_1, rfl, HA, HK1, HB⟩ := hrel
  cases gk with
  | zero => exact absurd HA.out (by simp [ybr.l0])
  | succ k1 =>
   have H := HA.out
   clear HA
   simp only [ybr.l0] at H
   by_cases c2 : x3_1 > 0
   · rw [if_pos c2] at H
     have c2b0 : decide (0 < x3_1) = true := decide_eq_true c2
     clear c2
     obtain ⟨ji3, hji3⟩ : ∃ j_ : Int, (wrap64 (x3_1 - 1)) = j_ := ⟨_, rfl⟩
     replace H : (if 0 ≤ (ji3) then (if (ji3) < (l0.length : Int) then (if (rd l0 (ji3)) = 0 then (ybr.l0 k1 l0 ji3) else (if 0 ≤ x3_1 then (if x3_1 ≤ (l0.length : Int) then ((ycx.f (l0.take (x3_1 : Int).toNat)).bind fun t1003 => (some t1003)) else (none)) else (none))) else (none)) else (none)) = some r := by first | (rw [hji3] at H; exact H) | (simp only [hji3] at H ⊢; exact H)
     have hji3w : (IntKind.i64.wrap (x3_1 - 1)) = ji3 := (ydk _).trans hji3
     by_cases c4 : 0 ≤ (ji3)
     · rw [if_pos c4] at H
       have c4b0 : decide (0 ≤ (ji3)) = true := decide_eq_true c4
       clear c4
       by_cases c5 : (ji3) < (l0.length : Int)
       · rw [if_pos c5] at H
         have c5b0 : decide ((ji3) < (l0.length : Int)) = true := decide_eq_true c5
         clear c5
         by_cases c6 : (rd l0 (ji3)) = 0
         · rw [if_pos c6] at H
           have c6b0 : ((rd l0 (ji3)) == 0) = true := beq_iff_eq.mpr c6
           have c6b1 : ((rd l0 (ji3)) != 0) = false := bne_eq_false_iff_eq.mpr c6
           clear c6
           have H' := Aside0.mk H
           clear H
           have p1001 : 0 ≤ ((ji3) : Int) := of_decide_eq_true Z26_
           have q1001 : (ji3) < (l0.length : Int) := of_decide_eq_true Z26_
           obtain ⟨ad1001, e1001, hx1001_0⟩ := Kd.ybs HR0.out (ji3) p1001 q1001
           cases e1001
           replace hx1001_0 := (HB.out.cell (World.block_lt_of_cell? w _ hx1001_0)).trans hx1001_0
           replace p1001 := eq_true p1001
           replace q1001 := eq_true q1001
           go_wp2
           go_roundg k1
           case measure => have := HK1.out; omega
           case rel => exact ⟨(ji3), Z25_, H', ⟨by have := HK1.out; omega⟩, ⟨by repeat (first | (with_reducible first | exact HB.out | apply yad | apply yab | apply yac) | exact HB.out)⟩⟩
         · rw [if_neg c6] at H
           have c6b0 : ((rd l0 (ji3)) == 0) = false := beq_eq_false_iff_ne.mpr c6
           have c6b1 : ((rd l0 (ji3)) != 0) = true := bne_iff_ne.mpr c6
           by_cases c7 : 0 ≤ x3_1
           · rw [if_pos c7] at H
             have c7b0 := eq_true c7
             have c7b1 : decide (0 ≤ x3_1) = true := decide_eq_true c7
             clear c7
             by_cases c8 : x3_1 ≤ (l0.length : Int)
             · rw [if_pos c8] at H
               have c8b0 := eq_true c8
               have c8b1 : decide (x3_1 ≤ (l0.length : Int)) = true := decide_eq_true c8
               clear c8
               replace H := Option.bind_eq_some_iff.mp H
               obtain ⟨t1003, A90, H⟩ := H
               replace H : (some t1003) = some r := H
               have A9 := Aside0.mk A90
               clear A90
               obtain rfl := Option.some.inj H
               have p1001 : 0 ≤ ((ji3) : Int) := of_decide_eq_true Z26_
               have q1001 : (ji3) < (l0.length : Int) := of_decide_eq_true Z26_
               obtain ⟨ad1001, e1001, hx1001_0⟩ := Kd.ybs HR0.out (ji3) p1001 q1001
               cases e1001
               replace hx1001_0 := (HB.out.cell (World.block_lt_of_cell? w _ hx1001_0)).trans hx1001_0
               replace p1001 := eq_true p1001
               replace q1001 := eq_true q1001
               obtain ⟨i010, hi010, _, hsz10, _⟩ := info_parts ygd
               obtain ⟨hcut10, hA10, hC10⟩ := yhk (P := Try.prog) (Value.int .u64) 0 23 61 .i64 Try.underlying23 hi010 hsz10 (some ad1001) c0 l0 x3_1 (of_decide_eq_true Z26_) (of_decide_eq_true Z26_) HC0.out
               have HR1002 := Aside0.mk (Kd.yie (h1 := fun _ => rfl) (hA10 _ (Kd.ygc HR0.out)))
               have HC1002 := Aside0.mk hC10
               clear hA10 hC10 hi010 hsz10
               go_wp2_with (first | ((with_reducible refine yar (f := 76) rfl ?_); refine yce (some 21) rfl rfl Try.func76 (by kernel_rfl) rfl #[.slice (some ad1001) (l0.take (x3_1 : Int).toNat).length c0] rfl Z0_ ?_; (with_reducible refine (ycx.calls _ _ (l0.take (x3_1 : Int).toNat) t1003 _ ?side1 ?side2 A9.out).mono ?_); (case side1 => repeat (first | exact (Kd.ybg HR1002.out HB.out) | (with_reducible refine Kd.yau ?_ _) | (with_reducible refine Kd.yaw ?_ _) | (with_reducible refine Kd.ybe ?_))); (case side2 => exact HC1002.out); rintro e w11 ⟨v1004, rfl, ho0, hb⟩; refine ⟨_, rfl, ?_⟩; have n0_ := Aside0.mk (Kd.ybl ho0 (yaj Z7_)); have n1_ := Aside0.mk (yai Z7_ hb); clear HB; have HO1005 := n0_; have HB := n1_; clear n0_ n1_; (try clear hb); (try clear hb2); (try clear hk); (try clear hi); (try clear ho0)))
               go_ret
               exact ⟨_, by first | rfl | (simp [yap, yao] <;> rfl) | (simp only [← hji3]; first | rfl | (simp [yap, yao] <;> rfl)) | (simp [*, yap, yao] <;> rfl), by (with_reducible repeat (first | apply Kd.yba | apply Kd.yaz | apply Kd.ybi)); exact HO1005.out, by repeat (first | (with_reducible first | exact HB.out | apply yad | apply yab | apply yac) | exact HB.out)⟩
             · rw [if_neg c8] at H
               exact absurd H (by simp)
           · rw [if_neg c7] at H
             exact absurd H (by simp)
       · rw [if_neg c5] at H
         exact absurd H (by simp)
     · rw [if_neg c4] at H
       exact absurd H (by simp)
   · rw [if_neg c2] at H
     have c2b0 : decide (0 < x3_1) = false := decide_eq_false c2
     clear c2
     by_cases c12 : 0 ≤ x3_1
     · rw [if_pos c12] at H
       have c12b0 := eq_true c12
       have c12b1 : decide (0 ≤ x3_1) = true := decide_eq_true c12
       clear c12
       by_cases c13 : x3_1 ≤ (l0.length : Int)
       · rw [if_pos c13] at H
         have c13b0 := eq_true c13
         have c13b1 : decide (x3_1 ≤ (l0.length : Int)) = true := decide_eq_true c13
         clear c13
         replace H := Option.bind_eq_some_iff.mp H
         obtain ⟨t1007, A140, H⟩ := H
         replace H : (some t1007) = some r := H
         have A14 := Aside0.mk A140
         clear A140
         obtain rfl := Option.some.inj H
         obtain ⟨i015, hi015, _, hsz15, _⟩ := info_parts ygd
         obtain ⟨hcut15, hA15, hC15⟩ := yhk (P := Try.prog) (Value.int .u64) 0 23 61 .i64 Try.underlying23 hi015 hsz15 A0 c0 l0 x3_1 (of_decide_eq_true Z26_) (of_decide_eq_true Z26_) HC0.out
         have HR1006 := Aside0.mk (Kd.yie (h1 := fun _ => rfl) (hA15 _ (Kd.ygc HR0.out)))
         have HC1006 := Aside0.mk hC15
         clear hA15 hC15 hi015 hsz15
         go_wp2_with (first | ((with_reducible refine yar (f := 76) rfl ?_); refine yce (some 21) rfl rfl Try.func76 (by kernel_rfl) rfl #[.slice A0 (l0.take (x3_1 : Int).toNat).length c0] rfl Z0_ ?_; (with_reducible refine (ycx.calls _ _ (l0.take (x3_1 : Int).toNat) t1007 _ ?side1 ?side2 A14.out).mono ?_); (case side1 => repeat (first | exact (Kd.ybg HR1006.out HB.out) | (with_reducible refine Kd.yau ?_ _) | (with_reducible refine Kd.yaw ?_ _) | (with_reducible refine Kd.ybe ?_))); (case side2 => exact HC1006.out); rintro e w16 ⟨v1008, rfl, ho0, hb⟩; refine ⟨_, rfl, ?_⟩; have n0_ := Aside0.mk (Kd.ybl ho0 (yaj Z7_)); have n1_ := Aside0.mk (yai Z7_ hb); clear HB; have HO1009 := n0_; have HB := n1_; clear n0_ n1_; (try clear hb); (try clear hb2); (try clear hk); (try clear hi); (try clear ho0)))
         go_ret
         exact ⟨_, by first | rfl | (simp [yap, yao] <;> rfl) | (simp [*, yap, yao] <;> rfl), by (with_reducible repeat (first | apply Kd.yba | apply Kd.yaz | apply Kd.ybi)); exact HO1009.out, by repeat (first | (with_reducible first | exact HB.out | apply yad | apply yab | apply yac) | exact HB.out)⟩
       · rw [if_neg c13] at H
         exact absurd H (by simp)
     · rw [if_neg c12] at H
       exact absurd H (by simp)
end Go.Proofs.Ytgnaaaliadiekaa.B
end
