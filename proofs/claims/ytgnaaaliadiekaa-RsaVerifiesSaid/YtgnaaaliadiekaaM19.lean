/- A part of the proof (merged by pack.py, a program of this session: what the row's proof names). -/
import Derived.Test.YtgnaaaliadiekaaM4
import Derived.Test.YtgnaaaliadiekaaM5
import Derived.Test.YtgnaaaliadiekaaM0
section
namespace Go.Proofs.Ytgnaaaliadiekaa.B
open Go.RowKit Go.Proofs.YtgnaaaliadiekaaW.PrintWords Go.Proofs.YtgnaaaliadiekaaW.PrintLast Go.Proofs.YtgnaaaliadiekaaW.PrintMore
attribute [local go_sem] ycj ych ycs ycr ybw ybv yci ycg   -- for this text's walks alone
attribute [local go_sem] yca ybn ybz ybm
set_option linter.unusedVariables false
set_option linter.unusedSimpArgs false
mutual
def yaf.l0 : Nat → List Int → List Int → List Int → Int → Option (List Int)
 | 0, _, _, _, _ => none
 | k + 1, x0, x1, x5, x6 => if x6 < (x0.length : Int) then (yaf.l1 k x0 x1 x5 x6 0 0) else ((yam.f k x5).bind fun t1004 => (some t1004))
def yaf.l1 : Nat → List Int → List Int → List Int → Int → Int → Int → Option (List Int)
 | 0, _, _, _, _, _, _ => none
 | k + 1, x0, x1, x5, x6, x7, x8 => if x8 < (x1.length : Int) then (yaf.j2 k x0 x1 x5 x6 x7 x8 true) else (yaf.j2 k x0 x1 x5 x6 x7 x8 (decide (x7 > 0)))
def yaf.j2 : Nat → List Int → List Int → List Int → Int → Int → Int → Bool → Option (List Int)
 | 0, _, _, _, _, _, _, _ => none
 | k + 1, x0, x1, x5, x6, x7, x8, x30 => if x30 = true then (if 0 ≤ (wrap64 (x6 + x8)) then (if (wrap64 (x6 + x8)) < (x5.length : Int) then (if x8 < (x1.length : Int) then (if 0 ≤ x6 then (if x6 < (x0.length : Int) then (if 0 ≤ x8 then (yaf.l1 k x0 x1 (x5.set ((wrap64 (x6 + x8)) : Int).toNat (Int.tmod (wrap64 ((wrap64 ((rd x5 (wrap64 (x6 + x8))) + x7)) + (wrap64 ((rd x0 x6) * (rd x1 x8))))) 65536)) x6 (wrap64 (Int.tdiv (wrap64 ((wrap64 ((rd x5 (wrap64 (x6 + x8))) + x7)) + (wrap64 ((rd x0 x6) * (rd x1 x8))))) 65536)) (wrap64 (x8 + 1))) else (none)) else (none)) else (none)) else (yaf.l1 k x0 x1 (x5.set ((wrap64 (x6 + x8)) : Int).toNat (Int.tmod (wrap64 ((rd x5 (wrap64 (x6 + x8))) + x7)) 65536)) x6 (wrap64 (Int.tdiv (wrap64 ((rd x5 (wrap64 (x6 + x8))) + x7)) 65536)) (wrap64 (x8 + 1)))) else (none)) else (none)) else (yaf.l0 k x0 x1 x5 (wrap64 (x6 + 1)))
end
def yaf.f (k : Nat) (l0 : List Int) (l1 : List Int) : Option (List Int) := if 0 ≤ (wrap64 ((wrap64 ((l0.length : Int) + (l1.length : Int))) + 1)) then (if (wrap64 ((wrap64 ((l0.length : Int) + (l1.length : Int))) + 1) : Int).toNat ≤ 35184372088832 then (yaf.l0 k l0 l1 (List.replicate (wrap64 ((wrap64 ((l0.length : Int) + (l1.length : Int))) + 1) : Int).toNat 0) 0) else (none)) else (none)
set_option maxHeartbeats 8000000 in
set_option maxRecDepth 100000 in
theorem yaf.calls (k : Nat) (A0 : Option Addr) (c0 : Nat) (l0 : List Int) (A1 : Option Addr) (c1 : Nat) (l1 : List Int) (r : List Int) (w : World) (hr0 : Kd.C (Kd.int .i64) w A0 l0.length l0) (hc0 : l0.length ≤ c0) (hr1 : Kd.C (Kd.int .i64) w A1 l1.length l1) (hc1 : l1.length ≤ c1) (h : yaf.f k l0 l1 = some r) :
 Calls Try.prog 62 #[.slice A0 l0.length c0, .slice A1 l1.length c1] w fun e w' => ∃ v0_ : Value, e = .returned (v0_) ∧ Kd.R (Kd.int .i64) 3 w' w.heap.size (fun _ => True) v0_ r ∧ Below w.heap.size w w' := by
 have HR0 := Aside0.mk hr0
 have HC0 := Aside0.mk hc0
 clear hr0 hc0
 have HR1 := Aside0.mk hr1
 have HC1 := Aside0.mk hc1
 clear hr1 hc1
 have HB := Aside0.mk (Below.refl w.heap.size w)
 have H : (if 0 ≤ (wrap64 ((wrap64 ((l0.length : Int) + (l1.length : Int))) + 1)) then (if (wrap64 ((wrap64 ((l0.length : Int) + (l1.length : Int))) + 1) : Int).toNat ≤ 35184372088832 then (yaf.l0 k l0 l1 (List.replicate (wrap64 ((wrap64 ((l0.length : Int) + (l1.length : Int))) + 1) : Int).toNat 0) 0) else (none)) else (none)) = some r := h
 clear h
 obtain ⟨ji3, hji3⟩ : ∃ j_ : Int, (wrap64 ((wrap64 ((l0.length : Int) + (l1.length : Int))) + 1)) = j_ := ⟨_, rfl⟩
 replace H : (if 0 ≤ (ji3) then (if (ji3 : Int).toNat ≤ 35184372088832 then (yaf.l0 k l0 l1 (List.replicate (ji3 : Int).toNat 0) 0) else (none)) else (none)) = some r := by first | (rw [hji3] at H; exact H) | (simp only [hji3] at H ⊢; exact H)
 have hji3w : (IntKind.i64.wrap ((wrap64 ((l0.length : Int) + (l1.length : Int))) + 1)) = ji3 := (ydk _).trans hji3
 by_cases c4 : 0 ≤ (ji3)
 · rw [if_pos c4] at H
   have c4b0 := eq_true c4
   have c4b1 : decide (0 ≤ (ji3)) = true := decide_eq_true c4
   clear c4
   by_cases c5 : (ji3 : Int).toNat ≤ 35184372088832
   · rw [if_pos c5] at H
     have c5b0 := eq_true c5
     have c5b1 : decide ((ji3 : Int).toNat ≤ 35184372088832) = true := decide_eq_true c5
     clear c5
     obtain ⟨y1001, hy1001⟩ : ∃ y_ : List Int, y_ = (List.replicate (ji3 : Int).toNat 0) := ⟨_, rfl⟩
     replace H : (yaf.l0 k l0 l1 y1001 0) = some r := by first | (rw [hy1001]; with_reducible exact H) | (have H2_ := (Option.bind_some _ _).symm.trans H; rw [hy1001]; with_reducible exact H2_) | (have H2_ := (Option.bind_some _ _).symm.trans H; with_reducible exact H2_) | with_reducible exact H | (rw [hy1001]; exact H) | exact H
     have Ny1001 := Aside0.mk hy1001
     clear hy1001
     have H' := Aside0.mk H
     clear H
     go_enter Try.func62, Try.ntmps62
     go_wp2_with (first | ((with_reducible refine ybu (N := 16) rfl ?_); refine Kd.yhb (Kd.int .i64) _ 3 rfl (N := 16) rfl 28 _ _ rfl ji3 rfl rfl Try.underlying28 (.int .i64 0) 8 info3 rfl (by decide) (by omega) 0 (ok := fun _ => True) (okp := fun _ => True) rfl (fun _ hk => hk) trivial (of_decide_eq_true Z26_) (Nat.le_trans (Nat.mul_le_mul_right _ (of_decide_eq_true Z26_ : ji3.toNat ≤ 35184372088832)) (by omega)) (Below.refl _ _) (Nat.le_refl _) ?_; intro v1002 w6 ho7 hb hg_ hnew_; clear hg_ hnew_; (first | rw [← Ny1001.out] at ho7 | (simp only [Int.reduceToNat] at ho7; rw [← Ny1001.out] at ho7)); have n0_ := Aside0.mk (Kd.ybl ho7 (yaj Z7_)); have n1_ := Aside0.mk (yai Z7_ hb); clear HB; have HO1003 := n0_; have HB := n1_; clear n0_ n1_; clear hb ho7))
     repeat (go_quiet (first | ((with_reducible refine ybu (N := 16) rfl ?_); refine Kd.yhb (Kd.int .i64) _ 3 rfl (N := 16) rfl 28 _ _ rfl ji3 rfl rfl Try.underlying28 (.int .i64 0) 8 info3 rfl (by decide) (by omega) 0 (ok := fun _ => True) (okp := fun _ => True) rfl (fun _ hk => hk) trivial (of_decide_eq_true Z26_) (Nat.le_trans (Nat.mul_le_mul_right _ (of_decide_eq_true Z26_ : ji3.toNat ≤ 35184372088832)) (by omega)) (Below.refl _ _) (Nat.le_refl _) ?_; intro v1002 w6 ho7 hb hg_ hnew_; clear hg_ hnew_; (first | rw [← Ny1001.out] at ho7 | (simp only [Int.reduceToNat] at ho7; rw [← Ny1001.out] at ho7)); have n0_ := Aside0.mk (Kd.ybl ho7 (yaj Z7_)); have n1_ := Aside0.mk (yai Z7_ hb); clear HB; have HO1003 := n0_; have HB := n1_; clear n0_ n1_; clear hb ho7)); try go_wp2_with (first | ((with_reducible refine ybu (N := 16) rfl ?_); refine Kd.yhb (Kd.int .i64) _ 3 rfl (N := 16) rfl 28 _ _ rfl ji3 rfl rfl Try.underlying28 (.int .i64 0) 8 info3 rfl (by decide) (by omega) 0 (ok := fun _ => True) (okp := fun _ => True) rfl (fun _ hk => hk) trivial (of_decide_eq_true Z26_) (Nat.le_trans (Nat.mul_le_mul_right _ (of_decide_eq_true Z26_ : ji3.toNat ≤ 35184372088832)) (by omega)) (Below.refl _ _) (Nat.le_refl _) ?_; intro v1002 w6 ho7 hb hg_ hnew_; clear hg_ hnew_; (first | rw [← Ny1001.out] at ho7 | (simp only [Int.reduceToNat] at ho7; rw [← Ny1001.out] at ho7)); have n0_ := Aside0.mk (Kd.ybl ho7 (yaj Z7_)); have n1_ := Aside0.mk (yai Z7_ hb); clear HB; have HO1003 := n0_; have HB := n1_; clear n0_ n1_; clear hb ho7)))
     go_loopg [6] k (fun kq v6 w' => ∃ (x5_1 : List Int) (x6_1 : Int), v6 = .int .i64 x6_1 ∧ Aside0 (yaf.l0 kq l0 l1 x5_1 x6_1 = some r) ∧ Aside0 (kq ≤ k) ∧ Aside0 (Kd.R (Kd.int .i64) 3 w' w.heap.size (fun _ => True) v1002 x5_1) ∧ Aside0 (Below w.heap.size w w'))
     case atStart => exact ⟨(y1001), (0), Z27_, H', ⟨Nat.le_refl _⟩, ⟨by (with_reducible repeat (first | apply Kd.yba | apply Kd.yaz | apply Kd.ybi)); exact HO1003.out⟩, ⟨by repeat (first | (with_reducible first | exact HB.out | apply yad | apply yab | apply yac) | exact HB.out)⟩⟩
     case round =>
      clear H'
      try clear c1
      try clear p2
      try clear c4
      try clear c4b0
      try clear c4b1
      try clear c5
      try clear c5b0
      try clear c5b1
      try clear c6
      try clear p6
      obtain ⟨x5_1, x6_1, rfl, HA, HK1, HO_5, HB⟩ := hrel
      cases gk with
      | zero => exact absurd HA.out (by simp [yaf.l0])
      | succ k1 =>
       have H := HA.out
       clear HA
       simp only [yaf.l0] at H
       by_cases c8 : x6_1 < (l0.length : Int)
       · rw [if_pos c8] at H
         have c8b0 : decide (x6_1 < (l0.length : Int)) = true := decide_eq_true c8
         clear c8
         have H' := Aside0.mk H
         clear H
         go_wp2
         repeat (go_quiet (fail); try go_wp2)
         go_loopg [7, 8] k1 (fun kq v7 v8 w' => ∃ (x5_2 : List Int) (x7_2 : Int) (x8_2 : Int), v7 = .int .i64 x7_2 ∧ v8 = .int .i64 x8_2 ∧ Aside0 (yaf.l1 kq l0 l1 x5_2 x6_1 x7_2 x8_2 = some r) ∧ Aside0 (kq ≤ k1) ∧ Aside0 (Kd.R (Kd.int .i64) 3 w' w.heap.size (fun _ => True) v1002 x5_2) ∧ Aside0 (Below w.heap.size w w'))
         case atStart => exact ⟨(x5_1), (0), (0), Z27_, Z27_, H', ⟨Nat.le_refl _⟩, ⟨by (with_reducible repeat (first | apply Kd.yba | apply Kd.yaz | apply Kd.ybi)); exact HO_5.out⟩, ⟨by repeat (first | (with_reducible first | exact HB.out | apply yad | apply yab | apply yac) | exact HB.out)⟩⟩
         case round =>
          clear H'
          try clear c1
          try clear p2
          try clear c4
          try clear c4b0
          try clear c4b1
          try clear c5
          try clear c5b0
          try clear c5b1
          try clear c6
          try clear p6
          try clear c8
          try clear c8b0
          try clear p2
          try clear p6
          obtain ⟨x5_2, x7_2, x8_2, rfl, rfl, HA, HK2, HO_5, HB⟩ := hrel
          cases gk with
          | zero => exact absurd HA.out (by simp [yaf.l1])
          | succ k2 =>
           have H := HA.out
           clear HA
           simp only [yaf.l1] at H
           have HC9 := Aside0.mk H
           clear H
           go_upto_region 7 with (fail)
           repeat (go_quiet (fail); go_upto_region 7 with (fail))
           go_cut [30] (fun v30 wc => ∃ (kq : Nat) (x30_8 : Bool), v30 = .bool x30_8 ∧ Aside0 (yaf.j2 kq l0 l1 x5_2 x6_1 x7_2 x8_2 x30_8 = some r) ∧ Aside0 (kq ≤ k2) ∧ Aside0 (Kd.R (Kd.int .i64) 3 wc w.heap.size (fun _ => True) v1002 x5_2) ∧ Aside0 (Below w.heap.size w wc))
           case first =>
            have H := HC9.out
            clear HC9
            by_cases c10 : x8_2 < (l1.length : Int)
            · rw [if_pos c10] at H
              have c10b0 : decide (x8_2 < (l1.length : Int)) = true := decide_eq_true c10
              clear c10
              (first | rw [c10b0] | (simp only [ydk, yfz]; rw [c10b0]) | skip)
              have H' := Aside0.mk H
              clear H
              go_wp2
              repeat (go_quiet (fail); try go_wp2)
              go_meet
              case rel => exact ⟨_, (true), Z27_, H', ⟨by have := HK1.out; have := HK2.out; first | omega | exact Nat.le_refl _⟩, ⟨by (with_reducible repeat (first | apply Kd.yba | apply Kd.yaz | apply Kd.ybi)); exact HO_5.out⟩, ⟨by repeat (first | (with_reducible first | exact HB.out | apply yad | apply yab | apply yac) | exact HB.out)⟩⟩
            · rw [if_neg c10] at H
              have c10b0 : decide (x8_2 < (l1.length : Int)) = false := decide_eq_false c10
              clear c10
              (first | rw [c10b0] | (simp only [ydk, yfz]; rw [c10b0]) | skip)
              have H' := Aside0.mk H
              clear H
              go_wp2
              repeat (go_quiet (fail); try go_wp2)
              go_meet
              case rel => exact ⟨_, (decide (x7_2 > 0)), Z27_, H', ⟨by have := HK1.out; have := HK2.out; first | omega | exact Nat.le_refl _⟩, ⟨by (with_reducible repeat (first | apply Kd.yba | apply Kd.yaz | apply Kd.ybi)); exact HO_5.out⟩, ⟨by repeat (first | (with_reducible first | exact HB.out | apply yad | apply yab | apply yac) | exact HB.out)⟩⟩
           case rest =>
            clear HC9
            try clear c1
            try clear p2
            try clear c4
            try clear c4b0
            try clear c4b1
            try clear c5
            try clear c5b0
            try clear c5b1
            try clear c6
            try clear p6
            try clear c8
            try clear c8b0
            try clear c10
            try clear c10b0
            try clear p2
            try clear p6
            obtain ⟨kq, x30_8, rfl, HA, HJ8, HO_5, HB⟩ := hcut
            cases kq with
            | zero => exact absurd HA.out (by simp [yaf.j2])
            | succ kj8 =>
             have H := HA.out
             clear HA
             simp only [yaf.j2] at H
             by_cases c11 : x30_8 = true
             · subst c11
               have H1 : (if 0 ≤ (wrap64 (x6_1 + x8_2)) then (if (wrap64 (x6_1 + x8_2)) < (x5_2.length : Int) then (if x8_2 < (l1.length : Int) then (if 0 ≤ x6_1 then (if x6_1 < (l0.length : Int) then (if 0 ≤ x8_2 then (yaf.l1 kj8 l0 l1 (x5_2.set ((wrap64 (x6_1 + x8_2)) : Int).toNat (Int.tmod (wrap64 ((wrap64 ((rd x5_2 (wrap64 (x6_1 + x8_2))) + x7_2)) + (wrap64 ((rd l0 x6_1) * (rd l1 x8_2))))) 65536)) x6_1 (wrap64 (Int.tdiv (wrap64 ((wrap64 ((rd x5_2 (wrap64 (x6_1 + x8_2))) + x7_2)) + (wrap64 ((rd l0 x6_1) * (rd l1 x8_2))))) 65536)) (wrap64 (x8_2 + 1))) else (none)) else (none)) else (none)) else (yaf.l1 kj8 l0 l1 (x5_2.set ((wrap64 (x6_1 + x8_2)) : Int).toNat (Int.tmod (wrap64 ((rd x5_2 (wrap64 (x6_1 + x8_2))) + x7_2)) 65536)) x6_1 (wrap64 (Int.tdiv (wrap64 ((rd x5_2 (wrap64 (x6_1 + x8_2))) + x7_2)) 65536)) (wrap64 (x8_2 + 1)))) else (none)) else (none)) = some r := by rw [if_pos rfl] at H; exact H
               clear H
               have H := H1
               clear H1
               obtain ⟨ji12, hji12⟩ : ∃ j_ : Int, (wrap64 (x6_1 + x8_2)) = j_ := ⟨_, rfl⟩
               replace H : (if 0 ≤ (ji12) then (if (ji12) < (x5_2.length : Int) then (if x8_2 < (l1.length : Int) then (if 0 ≤ x6_1 then (if x6_1 < (l0.length : Int) then (if 0 ≤ x8_2 then (yaf.l1 kj8 l0 l1 (x5_2.set ((ji12) : Int).toNat (Int.tmod (wrap64 ((wrap64 ((rd x5_2 (ji12)) + x7_2)) + (wrap64 ((rd l0 x6_1) * (rd l1 x8_2))))) 65536)) x6_1 (wrap64 (Int.tdiv (wrap64 ((wrap64 ((rd x5_2 (ji12)) + x7_2)) + (wrap64 ((rd l0 x6_1) * (rd l1 x8_2))))) 65536)) (wrap64 (x8_2 + 1))) else (none)) else (none)) else (none)) else (yaf.l1 kj8 l0 l1 (x5_2.set ((ji12) : Int).toNat (Int.tmod (wrap64 ((rd x5_2 (ji12)) + x7_2)) 65536)) x6_1 (wrap64 (Int.tdiv (wrap64 ((rd x5_2 (ji12)) + x7_2)) 65536)) (wrap64 (x8_2 + 1)))) else (none)) else (none)) = some r := by first | (rw [hji12] at H; exact H) | (simp only [hji12] at H ⊢; exact H)
               have hji12w : (IntKind.i64.wrap (x6_1 + x8_2)) = ji12 := (ydk _).trans hji12
               by_cases c13 : 0 ≤ (ji12)
               · rw [if_pos c13] at H
                 have c13b0 : decide (0 ≤ (ji12)) = true := decide_eq_true c13
                 clear c13
                 by_cases c14 : (ji12) < (x5_2.length : Int)
                 · rw [if_pos c14] at H
                   have c14b0 : decide ((ji12) < (x5_2.length : Int)) = true := decide_eq_true c14
                   clear c14
                   by_cases c15 : x8_2 < (l1.length : Int)
                   · rw [if_pos c15] at H
                     have c15b0 : decide (x8_2 < (l1.length : Int)) = true := decide_eq_true c15
                     clear c15
                     by_cases c16 : 0 ≤ x6_1
                     · rw [if_pos c16] at H
                       have c16b0 : decide (0 ≤ x6_1) = true := decide_eq_true c16
                       clear c16
                       by_cases c17 : x6_1 < (l0.length : Int)
                       · rw [if_pos c17] at H
                         have c17b0 : decide (x6_1 < (l0.length : Int)) = true := decide_eq_true c17
                         clear c17
                         by_cases c18 : 0 ≤ x8_2
                         · rw [if_pos c18] at H
                           have c18b0 : decide (0 ≤ x8_2) = true := decide_eq_true c18
                           clear c18
                           obtain ⟨y1010, hy1010⟩ : ∃ y_ : List Int, y_ = (x5_2.set ((ji12) : Int).toNat (Int.tmod (wrap64 ((wrap64 ((rd x5_2 (ji12)) + x7_2)) + (wrap64 ((rd l0 x6_1) * (rd l1 x8_2))))) 65536)) := ⟨_, rfl⟩
                           replace H : (yaf.l1 kj8 l0 l1 y1010 x6_1 (wrap64 (Int.tdiv (wrap64 ((wrap64 ((rd x5_2 (ji12)) + x7_2)) + (wrap64 ((rd l0 x6_1) * (rd l1 x8_2))))) 65536)) (wrap64 (x8_2 + 1))) = some r := by first | (rw [hy1010]; with_reducible exact H) | (have H2_ := (Option.bind_some _ _).symm.trans H; rw [hy1010]; with_reducible exact H2_) | (have H2_ := (Option.bind_some _ _).symm.trans H; with_reducible exact H2_) | with_reducible exact H | (rw [hy1010]; exact H) | exact H
                           have Ny1010 := Aside0.mk hy1010
                           clear hy1010
                           have H' := Aside0.mk H
                           clear H
                           obtain ⟨Ao20, co20, eo20⟩ := Kd.ybc HO_5.out
                           subst eo20
                           have p1007 : 0 ≤ ((ji12) : Int) := of_decide_eq_true Z26_
                           have q1007 : (ji12) < (x5_2.length : Int) := of_decide_eq_true Z26_
                           obtain ⟨ad1007, e1007, hx1007_0⟩ := Kd.ybs (Kd.R_reads' HO_5.out).2.2 (ji12) p1007 q1007
                           cases e1007
                           replace p1007 := eq_true p1007
                           replace q1007 := eq_true q1007
                           have p1008 : 0 ≤ (x6_1 : Int) := of_decide_eq_true Z26_
                           have q1008 : x6_1 < (l0.length : Int) := of_decide_eq_true Z26_
                           obtain ⟨ad1008, e1008, hx1008_0⟩ := Kd.ybs HR0.out x6_1 p1008 q1008
                           cases e1008
                           replace hx1008_0 := (HB.out.cell (World.block_lt_of_cell? w _ hx1008_0)).trans hx1008_0
                           replace p1008 := eq_true p1008
                           replace q1008 := eq_true q1008
                           have p1009 : 0 ≤ (x8_2 : Int) := of_decide_eq_true Z26_
                           have q1009 : x8_2 < (l1.length : Int) := of_decide_eq_true Z26_
                           obtain ⟨ad1009, e1009, hx1009_0⟩ := Kd.ybs HR1.out x8_2 p1009 q1009
                           cases e1009
                           replace hx1009_0 := (HB.out.cell (World.block_lt_of_cell? w _ hx1009_0)).trans hx1009_0
                           replace p1009 := eq_true p1009
                           replace q1009 := eq_true q1009
                           have p19 : 0 ≤ ((ji12) : Int) := of_decide_eq_true Z26_
                           have q19 : ((ji12) : Int) < ((x5_2.length : Int) : Int) := of_decide_eq_true Z26_
                           obtain ⟨go19, co19, eo19, gb19, gl19, cl19, HG19⟩ := Kd.yey HO_5.out (by omega)
                           (first | cases eo19 | (injection eo19 with ea_ en_ ec_; (first | subst ea_ | (injection ea_ with ea_; subst ea_)); subst ec_; clear en_))
                           have GB19 := Aside0.mk gb19
                           have GG19 := Aside0.mk HG19
                           clear gb19 gl19 HG19
                           (first | simp only [add_plain] at hx1007_0 | skip)
                           obtain ⟨hx19_0, hf19_0⟩ := Kd.ydb 0 HO_5.out ((ji12) : Int) p19 q19
                           replace p19 := eq_true p19
                           replace q19 := eq_true q19
                           have HP21 := Kd.yej HO_5.out ((ji12) : Int) (Int.tmod (wrap64 ((wrap64 ((rd x5_2 (ji12)) + x7_2)) + (wrap64 ((rd l0 x6_1) * (rd l1 x8_2))))) 65536)
                           go_wp2_with (first | ((with_reducible refine ycm (t := 3) (p := 62) rfl ?_); (try ((first | generalize hq_ : World.drewN wc nq = wc | (rw [ydi wc]; generalize hq_ : World.drewN wc _ = wc)); have n0_ := Aside0.mk (Kd.R_at hq_ HO_5.out); have n1_ := Aside0.mk (yeu hq_ HB.out); clear hq_ HO_5 HB; have HO_5 := n0_; have HB := n1_; clear n0_ n1_; (try (obtain ⟨hxg0_, hfg0_⟩ := Kd.ydb 0 HO_5.out ((ji12) : Int) (of_eq_true p19) (of_eq_true q19))); (try (have HP21 := Kd.yej HO_5.out ((ji12) : Int) (Int.tmod (wrap64 ((wrap64 ((rd x5_2 (ji12)) + x7_2)) + (wrap64 ((rd l0 x6_1) * (rd l1 x8_2))))) 65536))))); refine ycw (t := 3) (p := 62) (v := ?vo_w22) (w1 := (wc.setCell ⟨go19, ((ji12) : Int).toNat, none⟩ (.int .i64 (Int.tmod (wrap64 ((wrap64 ((rd x5_2 (ji12)) + x7_2)) + (wrap64 ((rd l0 x6_1) * (rd l1 x8_2))))) 65536)))) ?hg ?ho ?hn ?hr ?_; (case ho => rfl); (case hg => rfl); (case hn => rfl); (case hr => first | (go_simp; done) | (go_simp; rfl)); intro w22 hw; have hg : wc.grownBy w22 (some go19) := (by rw [hw]; exact HP21.2); have hp_ : Kd.R (Kd.int .i64) 3 w22 w.heap.size (fun _ => True) (.slice (some ⟨go19, 0, none⟩) x5_2.length co20) y1010 := (by rw [hw, Ny1010.out]; exact HP21.1); clear HP21; have n0_ := Aside0.mk (hp_); have n1_ := Aside0.mk ((by rw [hw]; exact ybx (HB.out) GB19.out : Below w.heap.size w w22)); clear HO_5; clear HB; have HO_5 := n0_; have HB := n1_; clear n0_ n1_; clear hg hw hp_))
                           repeat (go_quiet (first | ((with_reducible refine ycm (t := 3) (p := 62) rfl ?_); (try ((first | generalize hq_ : World.drewN wc nq = wc | (rw [ydi wc]; generalize hq_ : World.drewN wc _ = wc)); have n0_ := Aside0.mk (Kd.R_at hq_ HO_5.out); have n1_ := Aside0.mk (yeu hq_ HB.out); clear hq_ HO_5 HB; have HO_5 := n0_; have HB := n1_; clear n0_ n1_; (try (obtain ⟨hxg0_, hfg0_⟩ := Kd.ydb 0 HO_5.out ((ji12) : Int) (of_eq_true p19) (of_eq_true q19))); (try (have HP21 := Kd.yej HO_5.out ((ji12) : Int) (Int.tmod (wrap64 ((wrap64 ((rd x5_2 (ji12)) + x7_2)) + (wrap64 ((rd l0 x6_1) * (rd l1 x8_2))))) 65536))))); refine ycw (t := 3) (p := 62) (v := ?vo_w22) (w1 := (wc.setCell ⟨go19, ((ji12) : Int).toNat, none⟩ (.int .i64 (Int.tmod (wrap64 ((wrap64 ((rd x5_2 (ji12)) + x7_2)) + (wrap64 ((rd l0 x6_1) * (rd l1 x8_2))))) 65536)))) ?hg ?ho ?hn ?hr ?_; (case ho => rfl); (case hg => rfl); (case hn => rfl); (case hr => first | (go_simp; done) | (go_simp; rfl)); intro w22 hw; have hg : wc.grownBy w22 (some go19) := (by rw [hw]; exact HP21.2); have hp_ : Kd.R (Kd.int .i64) 3 w22 w.heap.size (fun _ => True) (.slice (some ⟨go19, 0, none⟩) x5_2.length co20) y1010 := (by rw [hw, Ny1010.out]; exact HP21.1); clear HP21; have n0_ := Aside0.mk (hp_); have n1_ := Aside0.mk ((by rw [hw]; exact ybx (HB.out) GB19.out : Below w.heap.size w w22)); clear HO_5; clear HB; have HO_5 := n0_; have HB := n1_; clear n0_ n1_; clear hg hw hp_)); try go_wp2_with (first | ((with_reducible refine ycm (t := 3) (p := 62) rfl ?_); (try ((first | generalize hq_ : World.drewN wc nq = wc | (rw [ydi wc]; generalize hq_ : World.drewN wc _ = wc)); have n0_ := Aside0.mk (Kd.R_at hq_ HO_5.out); have n1_ := Aside0.mk (yeu hq_ HB.out); clear hq_ HO_5 HB; have HO_5 := n0_; have HB := n1_; clear n0_ n1_; (try (obtain ⟨hxg0_, hfg0_⟩ := Kd.ydb 0 HO_5.out ((ji12) : Int) (of_eq_true p19) (of_eq_true q19))); (try (have HP21 := Kd.yej HO_5.out ((ji12) : Int) (Int.tmod (wrap64 ((wrap64 ((rd x5_2 (ji12)) + x7_2)) + (wrap64 ((rd l0 x6_1) * (rd l1 x8_2))))) 65536))))); refine ycw (t := 3) (p := 62) (v := ?vo_w22) (w1 := (wc.setCell ⟨go19, ((ji12) : Int).toNat, none⟩ (.int .i64 (Int.tmod (wrap64 ((wrap64 ((rd x5_2 (ji12)) + x7_2)) + (wrap64 ((rd l0 x6_1) * (rd l1 x8_2))))) 65536)))) ?hg ?ho ?hn ?hr ?_; (case ho => rfl); (case hg => rfl); (case hn => rfl); (case hr => first | (go_simp; done) | (go_simp; rfl)); intro w22 hw; have hg : wc.grownBy w22 (some go19) := (by rw [hw]; exact HP21.2); have hp_ : Kd.R (Kd.int .i64) 3 w22 w.heap.size (fun _ => True) (.slice (some ⟨go19, 0, none⟩) x5_2.length co20) y1010 := (by rw [hw, Ny1010.out]; exact HP21.1); clear HP21; have n0_ := Aside0.mk (hp_); have n1_ := Aside0.mk ((by rw [hw]; exact ybx (HB.out) GB19.out : Below w.heap.size w w22)); clear HO_5; clear HB; have HO_5 := n0_; have HB := n1_; clear n0_ n1_; clear hg hw hp_)))
                           go_roundg kj8
                           case measure => have := HK1.out; have := HK2.out; have := HJ8.out; omega
                           case rel => exact ⟨(y1010), (wrap64 (Int.tdiv (wrap64 ((wrap64 ((rd x5_2 (ji12)) + x7_2)) + (wrap64 ((rd l0 x6_1) * (rd l1 x8_2))))) 65536)), (wrap64 (x8_2 + 1)), (by first | rfl | (simp; done) | (simp only [← hji12] <;> (first | rfl | simp)) | (simp [*]; done)), Z27_, H', ⟨by have := HK1.out; have := HK2.out; have := HJ8.out; omega⟩, ⟨by (with_reducible repeat (first | apply Kd.yba | apply Kd.yaz | apply Kd.ybi)); exact HO_5.out⟩, ⟨by repeat (first | (with_reducible first | exact HB.out | apply yad | apply yab | apply yac) | exact HB.out)⟩⟩
                         · rw [if_neg c18] at H
                           exact absurd H (by simp)
                       · rw [if_neg c17] at H
                         exact absurd H (by simp)
                     · rw [if_neg c16] at H
                       exact absurd H (by simp)
                   · rw [if_neg c15] at H
                     have c15b0 : decide (x8_2 < (l1.length : Int)) = false := decide_eq_false c15
                     clear c15
                     obtain ⟨y1011, hy1011⟩ : ∃ y_ : List Int, y_ = (x5_2.set ((ji12) : Int).toNat (Int.tmod (wrap64 ((rd x5_2 (ji12)) + x7_2)) 65536)) := ⟨_, rfl⟩
                     replace H : (yaf.l1 kj8 l0 l1 y1011 x6_1 (wrap64 (Int.tdiv (wrap64 ((rd x5_2 (ji12)) + x7_2)) 65536)) (wrap64 (x8_2 + 1))) = some r := by first | (rw [hy1011]; with_reducible exact H) | (have H2_ := (Option.bind_some _ _).symm.trans H; rw [hy1011]; with_reducible exact H2_) | (have H2_ := (Option.bind_some _ _).symm.trans H; with_reducible exact H2_) | with_reducible exact H | (rw [hy1011]; exact H) | exact H
                     have Ny1011 := Aside0.mk hy1011
                     clear hy1011
                     have H' := Aside0.mk H
                     clear H
                     obtain ⟨Ao24, co24, eo24⟩ := Kd.ybc HO_5.out
                     subst eo24
                     have p1007 : 0 ≤ ((ji12) : Int) := of_decide_eq_true Z26_
                     have q1007 : (ji12) < (x5_2.length : Int) := of_decide_eq_true Z26_
                     obtain ⟨ad1007, e1007, hx1007_0⟩ := Kd.ybs (Kd.R_reads' HO_5.out).2.2 (ji12) p1007 q1007
                     cases e1007
                     replace p1007 := eq_true p1007
                     replace q1007 := eq_true q1007
                     have p23 : 0 ≤ ((ji12) : Int) := of_decide_eq_true Z26_
                     have q23 : ((ji12) : Int) < ((x5_2.length : Int) : Int) := of_decide_eq_true Z26_
                     obtain ⟨go23, co23, eo23, gb23, gl23, cl23, HG23⟩ := Kd.yey HO_5.out (by omega)
                     (first | cases eo23 | (injection eo23 with ea_ en_ ec_; (first | subst ea_ | (injection ea_ with ea_; subst ea_)); subst ec_; clear en_))
                     have GB23 := Aside0.mk gb23
                     have GG23 := Aside0.mk HG23
                     clear gb23 gl23 HG23
                     (first | simp only [add_plain] at hx1007_0 | skip)
                     obtain ⟨hx23_0, hf23_0⟩ := Kd.ydb 0 HO_5.out ((ji12) : Int) p23 q23
                     replace p23 := eq_true p23
                     replace q23 := eq_true q23
                     have HP25 := Kd.yej HO_5.out ((ji12) : Int) (Int.tmod (wrap64 ((rd x5_2 (ji12)) + x7_2)) 65536)
                     go_wp2_with (first | ((with_reducible refine ycm (t := 3) (p := 62) rfl ?_); (try ((first | generalize hq_ : World.drewN wc nq = wc | (rw [ydi wc]; generalize hq_ : World.drewN wc _ = wc)); have n0_ := Aside0.mk (Kd.R_at hq_ HO_5.out); have n1_ := Aside0.mk (yeu hq_ HB.out); clear hq_ HO_5 HB; have HO_5 := n0_; have HB := n1_; clear n0_ n1_; (try (obtain ⟨hxg0_, hfg0_⟩ := Kd.ydb 0 HO_5.out ((ji12) : Int) (of_eq_true p23) (of_eq_true q23))); (try (have HP25 := Kd.yej HO_5.out ((ji12) : Int) (Int.tmod (wrap64 ((rd x5_2 (ji12)) + x7_2)) 65536))))); refine ycw (t := 3) (p := 62) (v := ?vo_w26) (w1 := (wc.setCell ⟨go23, ((ji12) : Int).toNat, none⟩ (.int .i64 (Int.tmod (wrap64 ((rd x5_2 (ji12)) + x7_2)) 65536)))) ?hg ?ho ?hn ?hr ?_; (case ho => rfl); (case hg => rfl); (case hn => rfl); (case hr => first | (go_simp; done) | (go_simp; rfl)); intro w26 hw; have hg : wc.grownBy w26 (some go23) := (by rw [hw]; exact HP25.2); have hp_ : Kd.R (Kd.int .i64) 3 w26 w.heap.size (fun _ => True) (.slice (some ⟨go23, 0, none⟩) x5_2.length co24) y1011 := (by rw [hw, Ny1011.out]; exact HP25.1); clear HP25; have n0_ := Aside0.mk (hp_); have n1_ := Aside0.mk ((by rw [hw]; exact ybx (HB.out) GB23.out : Below w.heap.size w w26)); clear HO_5; clear HB; have HO_5 := n0_; have HB := n1_; clear n0_ n1_; clear hg hw hp_))
                     repeat (go_quiet (first | ((with_reducible refine ycm (t := 3) (p := 62) rfl ?_); (try ((first | generalize hq_ : World.drewN wc nq = wc | (rw [ydi wc]; generalize hq_ : World.drewN wc _ = wc)); have n0_ := Aside0.mk (Kd.R_at hq_ HO_5.out); have n1_ := Aside0.mk (yeu hq_ HB.out); clear hq_ HO_5 HB; have HO_5 := n0_; have HB := n1_; clear n0_ n1_; (try (obtain ⟨hxg0_, hfg0_⟩ := Kd.ydb 0 HO_5.out ((ji12) : Int) (of_eq_true p23) (of_eq_true q23))); (try (have HP25 := Kd.yej HO_5.out ((ji12) : Int) (Int.tmod (wrap64 ((rd x5_2 (ji12)) + x7_2)) 65536))))); refine ycw (t := 3) (p := 62) (v := ?vo_w26) (w1 := (wc.setCell ⟨go23, ((ji12) : Int).toNat, none⟩ (.int .i64 (Int.tmod (wrap64 ((rd x5_2 (ji12)) + x7_2)) 65536)))) ?hg ?ho ?hn ?hr ?_; (case ho => rfl); (case hg => rfl); (case hn => rfl); (case hr => first | (go_simp; done) | (go_simp; rfl)); intro w26 hw; have hg : wc.grownBy w26 (some go23) := (by rw [hw]; exact HP25.2); have hp_ : Kd.R (Kd.int .i64) 3 w26 w.heap.size (fun _ => True) (.slice (some ⟨go23, 0, none⟩) x5_2.length co24) y1011 := (by rw [hw, Ny1011.out]; exact HP25.1); clear HP25; have n0_ := Aside0.mk (hp_); have n1_ := Aside0.mk ((by rw [hw]; exact ybx (HB.out) GB23.out : Below w.heap.size w w26)); clear HO_5; clear HB; have HO_5 := n0_; have HB := n1_; clear n0_ n1_; clear hg hw hp_)); try go_wp2_with (first | ((with_reducible refine ycm (t := 3) (p := 62) rfl ?_); (try ((first | generalize hq_ : World.drewN wc nq = wc | (rw [ydi wc]; generalize hq_ : World.drewN wc _ = wc)); have n0_ := Aside0.mk (Kd.R_at hq_ HO_5.out); have n1_ := Aside0.mk (yeu hq_ HB.out); clear hq_ HO_5 HB; have HO_5 := n0_; have HB := n1_; clear n0_ n1_; (try (obtain ⟨hxg0_, hfg0_⟩ := Kd.ydb 0 HO_5.out ((ji12) : Int) (of_eq_true p23) (of_eq_true q23))); (try (have HP25 := Kd.yej HO_5.out ((ji12) : Int) (Int.tmod (wrap64 ((rd x5_2 (ji12)) + x7_2)) 65536))))); refine ycw (t := 3) (p := 62) (v := ?vo_w26) (w1 := (wc.setCell ⟨go23, ((ji12) : Int).toNat, none⟩ (.int .i64 (Int.tmod (wrap64 ((rd x5_2 (ji12)) + x7_2)) 65536)))) ?hg ?ho ?hn ?hr ?_; (case ho => rfl); (case hg => rfl); (case hn => rfl); (case hr => first | (go_simp; done) | (go_simp; rfl)); intro w26 hw; have hg : wc.grownBy w26 (some go23) := (by rw [hw]; exact HP25.2); have hp_ : Kd.R (Kd.int .i64) 3 w26 w.heap.size (fun _ => True) (.slice (some ⟨go23, 0, none⟩) x5_2.length co24) y1011 := (by rw [hw, Ny1011.out]; exact HP25.1); clear HP25; have n0_ := Aside0.mk (hp_); have n1_ := Aside0.mk ((by rw [hw]; exact ybx (HB.out) GB23.out : Below w.heap.size w w26)); clear HO_5; clear HB; have HO_5 := n0_; have HB := n1_; clear n0_ n1_; clear hg hw hp_)))
                     go_roundg kj8
                     case measure => have := HK1.out; have := HK2.out; have := HJ8.out; omega
                     case rel => exact ⟨(y1011), (wrap64 (Int.tdiv (wrap64 ((rd x5_2 (ji12)) + x7_2)) 65536)), (wrap64 (x8_2 + 1)), (by first | rfl | (simp; done) | (simp only [← hji12] <;> (first | rfl | simp)) | (simp [*]; done)), Z27_, H', ⟨by have := HK1.out; have := HK2.out; have := HJ8.out; omega⟩, ⟨by (with_reducible repeat (first | apply Kd.yba | apply Kd.yaz | apply Kd.ybi)); exact HO_5.out⟩, ⟨by repeat (first | (with_reducible first | exact HB.out | apply yad | apply yab | apply yac) | exact HB.out)⟩⟩
                 · rw [if_neg c14] at H
                   exact absurd H (by simp)
               · rw [if_neg c13] at H
                 exact absurd H (by simp)
             · replace c11 := Bool.eq_false_iff.mpr c11
               subst c11
               have H1 : (yaf.l0 kj8 l0 l1 x5_2 (wrap64 (x6_1 + 1))) = some r := by rw [if_neg (show ¬ (false = true) by decide)] at H; exact H
               clear H
               have H := H1
               clear H1
               have H' := Aside0.mk H
               clear H
               go_wp2
               repeat (go_quiet (fail); try go_wp2)
               go_roundg kj8
               case measure => have := HK1.out; have := HK2.out; have := HJ8.out; omega
               case rel => exact ⟨(x5_2), (wrap64 (x6_1 + 1)), Z27_, H', ⟨by have := HK1.out; have := HK2.out; have := HJ8.out; omega⟩, ⟨by (with_reducible repeat (first | apply Kd.yba | apply Kd.yaz | apply Kd.ybi)); exact HO_5.out⟩, ⟨by repeat (first | (with_reducible first | exact HB.out | apply yad | apply yab | apply yac) | exact HB.out)⟩⟩
       · rw [if_neg c8] at H
         have c8b0 : decide (x6_1 < (l0.length : Int)) = false := decide_eq_false c8
         clear c8
         replace H := Option.bind_eq_some_iff.mp H
         obtain ⟨t1004, A270, H⟩ := H
         replace H : (some t1004) = some r := H
         have A27 := Aside0.mk A270
         clear A270
         obtain rfl := Option.some.inj H
         obtain ⟨Ao28, co28, eo28⟩ := Kd.ybc HO_5.out
         subst eo28
         go_wp2_with (first | (go_at_call 43; (with_reducible refine (yam.calls k1 (fun k_ => some k_ = (.slice Ao28 x5_1.length co28 : Value).ownBlock) (.slice Ao28 x5_1.length co28) x5_1 t1004 w _ ?side1 ?side2 A27.out).mono ?_); (case side1 => repeat (first | (with_reducible first | exact HB.out | apply yad | apply yab | apply yac) | exact HB.out)); (case side2 => exact Kd.yfh rfl HO_5.out); rintro e w29 ⟨v1005, rfl, ho0, hb, hkp⟩; have n0_ := Aside0.mk (Kd.ycn (ok' := fun k_ => True) ho0 (fun k_ hk_ => trivial)); have n1_ := Aside0.mk (hb); clear HB; clear HO_5; have HO1006 := n0_; have HB := n1_; clear n0_ n1_; (try clear hb); (try clear hkp); (try clear ho0)))
         repeat (go_quiet (first | (go_at_call 43; (with_reducible refine (yam.calls k1 (fun k_ => some k_ = (.slice Ao28 x5_1.length co28 : Value).ownBlock) (.slice Ao28 x5_1.length co28) x5_1 t1004 w _ ?side1 ?side2 A27.out).mono ?_); (case side1 => repeat (first | (with_reducible first | exact HB.out | apply yad | apply yab | apply yac) | exact HB.out)); (case side2 => exact Kd.yfh rfl HO_5.out); rintro e w29 ⟨v1005, rfl, ho0, hb, hkp⟩; (try clear A27); have n0_ := Aside0.mk (Kd.ycn (ok' := fun k_ => True) ho0 (fun k_ hk_ => trivial)); have n1_ := Aside0.mk (hb); clear HB; clear HO_5; have HO1006 := n0_; have HB := n1_; clear n0_ n1_; (try clear hb); (try clear hkp); (try clear ho0))); try go_wp2_with (first | (go_at_call 43; (with_reducible refine (yam.calls k1 (fun k_ => some k_ = (.slice Ao28 x5_1.length co28 : Value).ownBlock) (.slice Ao28 x5_1.length co28) x5_1 t1004 w _ ?side1 ?side2 A27.out).mono ?_); (case side1 => repeat (first | (with_reducible first | exact HB.out | apply yad | apply yab | apply yac) | exact HB.out)); (case side2 => exact Kd.yfh rfl HO_5.out); rintro e w29 ⟨v1005, rfl, ho0, hb, hkp⟩; (try clear A27); have n0_ := Aside0.mk (Kd.ycn (ok' := fun k_ => True) ho0 (fun k_ hk_ => trivial)); have n1_ := Aside0.mk (hb); clear HB; clear HO_5; have HO1006 := n0_; have HB := n1_; clear n0_ n1_; (try clear hb); (try clear hkp); (try clear ho0))))
         go_ret
         exact ⟨_, by first | rfl | (simp [yap, yao] <;> rfl) | (simp only [← hji3]; first | rfl | (simp [yap, yao] <;> rfl)) | (simp [*, yap, yao] <;> rfl), by (with_reducible repeat (first | apply Kd.yba | apply Kd.yaz | apply Kd.ybi)); exact HO1006.out, by repeat (first | (with_reducible first | exact HB.out | apply yad | apply yab | apply yac) | exact HB.out)⟩
   · rw [if_neg c5] at H
     exact absurd H (by simp)
 · rw [if_neg c4] at H
   exact absurd H (by simp)
end Go.Proofs.Ytgnaaaliadiekaa.B
end
