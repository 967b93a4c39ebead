/- A part of the proof (merged by pack.py, a program of this session: what the row's proof names). -/
import Derived.Test.YtgnaaaliadiekaaM4
import Derived.Test.YtgnaaaliadiekaaM8
import Derived.Test.YtgnaaaliadiekaaM11
import Derived.Test.YtgnaaaliadiekaaM0
section
namespace Go.Proofs.Ytgnaaaliadiekaa.B
open Go.RowKit Go.Proofs.YtgnaaaliadiekaaW.PrintWords Go.Proofs.YtgnaaaliadiekaaW.PrintLast Go.Proofs.YtgnaaaliadiekaaW.PrintMore
attribute [local go_sem] ycj ych ycs ycr ybw ybv yci ycg   -- for this text's walks alone
attribute [local go_sem] yca ybn ybz ybm
set_option linter.unusedVariables false
set_option linter.unusedSimpArgs false
mutual
def yda.l0 : Nat → List Int → List Int → List Int → Int → Int → Option (List Int)
 | 0, _, _, _, _, _ => none
 | k + 1, x1, x5, x20, x21, x22 => if x22 < x21 then (if 0 ≤ x22 then (if x22 < (x20.length : Int) then (yda.l1 k x1 x5 x22 (rd x20 x22) 0 x20 x21 x22 x1 (x1.length : Int) 0) else (none)) else (none)) else ((ybr.f k x5).bind fun t1004 => (some t1004))
def yda.l1 : Nat → List Int → List Int → Int → Int → Int → List Int → Int → Int → List Int → Int → Int → Option (List Int)
 | 0, _, _, _, _, _, _, _, _, _, _, _ => none
 | k + 1, x1, x5, x6, x7, x8, x20, x21, x22, x27, x28, x29 => if x29 < x28 then (if 0 ≤ x29 then (if x29 < (x27.length : Int) then ((bits_Mul64.f x7 (rd x27 x29)).bind fun bt1009 => (if 0 ≤ (wrap64 (x6 + x29)) then (if (wrap64 (x6 + x29)) < (x5.length : Int) then (yda.l1 k x1 (x5.set ((wrap64 (x6 + x29)) : Int).toNat (yeb (yeb bt1009.2 (rd x5 (wrap64 (x6 + x29))) 0) x8 0)) x6 x7 (IntKind.u64.wrap ((IntKind.u64.wrap (bt1009.1 + (yff bt1009.2 (rd x5 (wrap64 (x6 + x29))) 0))) + (yff (yeb bt1009.2 (rd x5 (wrap64 (x6 + x29))) 0) x8 0))) x20 x21 x22 x27 x28 (wrap64 (x29 + 1))) else (none)) else (none))) else (none)) else (none)) else (if 0 ≤ (wrap64 (x6 + (x1.length : Int))) then (if (wrap64 (x6 + (x1.length : Int))) < (x5.length : Int) then (yda.l0 k x1 (x5.set ((wrap64 (x6 + (x1.length : Int))) : Int).toNat x8) x20 x21 (wrap64 (x22 + 1))) else (none)) else (none))
end
def yda.f (k : Nat) (l0 : List Int) (l1 : List Int) : Option (List Int) := if 0 ≤ (wrap64 ((l0.length : Int) + (l1.length : Int))) then (if (wrap64 ((l0.length : Int) + (l1.length : Int)) : Int).toNat ≤ 35184372088832 then (yda.l0 k l1 (List.replicate (wrap64 ((l0.length : Int) + (l1.length : Int)) : Int).toNat 0) l0 (l0.length : Int) 0) else (none)) else (none)
set_option maxHeartbeats 8000000 in
set_option maxRecDepth 100000 in
theorem yda.calls (k : Nat) (A0 : Option Addr) (c0 : Nat) (l0 : List Int) (A1 : Option Addr) (c1 : Nat) (l1 : List Int) (r : List Int) (w : World) (hr0 : Kd.C (Kd.int .u64) w A0 l0.length l0) (hc0 : l0.length ≤ c0) (hr1 : Kd.C (Kd.int .u64) w A1 l1.length l1) (hc1 : l1.length ≤ c1) (h : yda.f k l0 l1 = some r) :
 Calls Try.prog 99 #[.slice A0 l0.length c0, .slice A1 l1.length c1] w fun e w' => ∃ v0_ : Value, e = .returned (v0_) ∧ Kd.R (Kd.int .u64) 61 w' w.heap.size (fun _ => True) v0_ r ∧ Below w.heap.size w w' := by
 have HR0 := Aside0.mk hr0
 have HC0 := Aside0.mk hc0
 clear hr0 hc0
 have HR1 := Aside0.mk hr1
 have HC1 := Aside0.mk hc1
 clear hr1 hc1
 have HB := Aside0.mk (Below.refl w.heap.size w)
 have H : (if 0 ≤ (wrap64 ((l0.length : Int) + (l1.length : Int))) then (if (wrap64 ((l0.length : Int) + (l1.length : Int)) : Int).toNat ≤ 35184372088832 then (yda.l0 k l1 (List.replicate (wrap64 ((l0.length : Int) + (l1.length : Int)) : Int).toNat 0) l0 (l0.length : Int) 0) else (none)) else (none)) = some r := h
 clear h
 obtain ⟨ji3, hji3⟩ : ∃ j_ : Int, (wrap64 ((l0.length : Int) + (l1.length : Int))) = j_ := ⟨_, rfl⟩
 replace H : (if 0 ≤ (ji3) then (if (ji3 : Int).toNat ≤ 35184372088832 then (yda.l0 k l1 (List.replicate (ji3 : Int).toNat 0) l0 (l0.length : Int) 0) else (none)) else (none)) = some r := by first | (rw [hji3] at H; exact H) | (simp only [hji3] at H ⊢; exact H)
 have hji3w : (IntKind.i64.wrap ((l0.length : Int) + (l1.length : Int))) = ji3 := (ydk _).trans hji3
 by_cases c4 : 0 ≤ (ji3)
 · rw [if_pos c4] at H
   have c4b0 := eq_true c4
   have c4b1 : decide (0 ≤ (ji3)) = true := decide_eq_true c4
   clear c4
   by_cases c5 : (ji3 : Int).toNat ≤ 35184372088832
   · rw [if_pos c5] at H
     have c5b0 := eq_true c5
     have c5b1 : decide ((ji3 : Int).toNat ≤ 35184372088832) = true := decide_eq_true c5
     clear c5
     obtain ⟨y1001, hy1001⟩ : ∃ y_ : List Int, y_ = (List.replicate (ji3 : Int).toNat 0) := ⟨_, rfl⟩
     replace H : (yda.l0 k l1 y1001 l0 (l0.length : Int) 0) = some r := by first | (rw [hy1001]; with_reducible exact H) | (have H2_ := (Option.bind_some _ _).symm.trans H; rw [hy1001]; with_reducible exact H2_) | (have H2_ := (Option.bind_some _ _).symm.trans H; with_reducible exact H2_) | with_reducible exact H | (rw [hy1001]; exact H) | exact H
     have Ny1001 := Aside0.mk hy1001
     clear hy1001
     have H' := Aside0.mk H
     clear H
     go_enter Try.func99, Try.ntmps99
     go_wp2_with (first | ((with_reducible refine ybu (N := 19) rfl ?_); refine Kd.yhb (Kd.int .u64) _ 61 rfl (N := 19) rfl 23 _ _ rfl ji3 rfl rfl Try.underlying23 (.int .u64 0) 8 ygd rfl (by decide) (by omega) 0 (ok := fun _ => True) (okp := fun _ => True) rfl (fun _ hk => hk) trivial (of_decide_eq_true Z26_) (Nat.le_trans (Nat.mul_le_mul_right _ (of_decide_eq_true Z26_ : ji3.toNat ≤ 35184372088832)) (by omega)) (Below.refl _ _) (Nat.le_refl _) ?_; intro v1002 w6 ho7 hb hg_ hnew_; clear hg_ hnew_; (first | rw [← Ny1001.out] at ho7 | (simp only [Int.reduceToNat] at ho7; rw [← Ny1001.out] at ho7)); have n0_ := Aside0.mk (Kd.ybl ho7 (yaj Z7_)); have n1_ := Aside0.mk (yai Z7_ hb); clear HB; have HO1003 := n0_; have HB := n1_; clear n0_ n1_; clear hb ho7))
     go_loopg [22] k (fun kq v22 w' => ∃ (x5_1 : List Int) (x22_1 : Int), v22 = .int .i64 x22_1 ∧ Aside0 (yda.l0 kq l1 x5_1 l0 (l0.length : Int) x22_1 = some r) ∧ Aside0 (kq ≤ k) ∧ Aside0 (Kd.R (Kd.int .u64) 61 w' w.heap.size (fun _ => True) v1002 x5_1) ∧ Aside0 (Below w.heap.size w w'))
     case atStart => exact ⟨(y1001), (0), Z27_, H', ⟨Nat.le_refl _⟩, ⟨by (with_reducible repeat (first | apply Kd.yba | apply Kd.yaz | apply Kd.ybi)); exact HO1003.out⟩, ⟨by repeat (first | (with_reducible first | exact HB.out | apply yad | apply yab | apply yac) | exact HB.out)⟩⟩
     case round =>
      clear H'
      try clear c1
      try clear p2
      try clear c4
      try clear c4b0
      try clear c4b1
      try clear c5
      try clear c5b0
      try clear c5b1
      try clear p6
      obtain ⟨x5_1, x22_1, rfl, HA, HK1, HO_5, HB⟩ := hrel
      cases gk with
      | zero => exact absurd HA.out (by simp [yda.l0])
      | succ k1 =>
       have H := HA.out
       clear HA
       simp only [yda.l0] at H
       by_cases c8 : x22_1 < (l0.length : Int)
       · rw [if_pos c8] at H
         have c8b0 : decide (x22_1 < (l0.length : Int)) = true := decide_eq_true c8
         clear c8
         by_cases c9 : 0 ≤ x22_1
         · rw [if_pos c9] at H
           have c9b0 : decide (0 ≤ x22_1) = true := decide_eq_true c9
           clear c9
           by_cases c10 : x22_1 < (l0.length : Int)
           · rw [if_pos c10] at H
             have c10b0 : decide (x22_1 < (l0.length : Int)) = true := decide_eq_true c10
             clear c10
             have H' := Aside0.mk H
             clear H
             have p1007 : 0 ≤ (x22_1 : Int) := of_decide_eq_true Z26_
             have q1007 : x22_1 < (l0.length : Int) := of_decide_eq_true Z26_
             obtain ⟨ad1007, e1007, hx1007_0⟩ := Kd.ybs HR0.out x22_1 p1007 q1007
             cases e1007
             replace hx1007_0 := (HB.out.cell (World.block_lt_of_cell? w _ hx1007_0)).trans hx1007_0
             replace p1007 := eq_true p1007
             replace q1007 := eq_true q1007
             go_wp2
             go_loopg [8, 29] k1 (fun kq v8 v29 w' => ∃ (x5_2 : List Int) (x8_2 : Int) (x29_2 : Int), v8 = .int .u64 x8_2 ∧ v29 = .int .i64 x29_2 ∧ Aside0 (yda.l1 kq l1 x5_2 x22_1 (rd l0 x22_1) x8_2 l0 (l0.length : Int) x22_1 l1 (l1.length : Int) x29_2 = some r) ∧ Aside0 (kq ≤ k1) ∧ Aside0 (Kd.R (Kd.int .u64) 61 w' w.heap.size (fun _ => True) v1002 x5_2) ∧ Aside0 (Below w.heap.size w w'))
             case atStart => exact ⟨(x5_1), (0), (0), Z27_, Z27_, H', ⟨Nat.le_refl _⟩, ⟨by (with_reducible repeat (first | apply Kd.yba | apply Kd.yaz | apply Kd.ybi)); exact HO_5.out⟩, ⟨by repeat (first | (with_reducible first | exact HB.out | apply yad | apply yab | apply yac) | exact HB.out)⟩⟩
             case round =>
              clear H'
              try clear c1
              try clear p1
              try clear q1
              try clear hx1
              try clear p2
              try clear c4
              try clear c4b0
              try clear c4b1
              try clear c5
              try clear c5b0
              try clear c5b1
              try clear p6
              try clear c8
              try clear c8b0
              try clear c9
              try clear c9b0
              try clear c10
              try clear c10b0
              try clear p10
              try clear q10
              try clear hx10
              try clear hx1007_0
              try clear p1007
              try clear p2
              try clear p6
              try clear q1007
              obtain ⟨x5_2, x8_2, x29_2, rfl, rfl, HA, HK2, HO_5, HB⟩ := hrel
              cases gk with
              | zero => exact absurd HA.out (by simp [yda.l1])
              | succ k2 =>
               have H := HA.out
               clear HA
               simp only [yda.l1] at H
               by_cases c11 : x29_2 < (l1.length : Int)
               · rw [if_pos c11] at H
                 have c11b0 : decide (x29_2 < (l1.length : Int)) = true := decide_eq_true c11
                 clear c11
                 by_cases c12 : 0 ≤ x29_2
                 · rw [if_pos c12] at H
                   have c12b0 : decide (0 ≤ x29_2) = true := decide_eq_true c12
                   clear c12
                   by_cases c13 : x29_2 < (l1.length : Int)
                   · rw [if_pos c13] at H
                     have c13b0 : decide (x29_2 < (l1.length : Int)) = true := decide_eq_true c13
                     clear c13
                     replace H := Option.bind_eq_some_iff.mp H
                     obtain ⟨⟨t1009, t1010⟩, A140, H⟩ := H
                     replace H : (if 0 ≤ (wrap64 (x22_1 + x29_2)) then (if (wrap64 (x22_1 + x29_2)) < (x5_2.length : Int) then (yda.l1 k2 l1 (x5_2.set ((wrap64 (x22_1 + x29_2)) : Int).toNat (yeb (yeb t1010 (rd x5_2 (wrap64 (x22_1 + x29_2))) 0) x8_2 0)) x22_1 (rd l0 x22_1) (IntKind.u64.wrap ((IntKind.u64.wrap (t1009 + (yff t1010 (rd x5_2 (wrap64 (x22_1 + x29_2))) 0))) + (yff (yeb t1010 (rd x5_2 (wrap64 (x22_1 + x29_2))) 0) x8_2 0))) l0 (l0.length : Int) x22_1 l1 (l1.length : Int) (wrap64 (x29_2 + 1))) else (none)) else (none)) = some r := H
                     have A14 := Aside0.mk A140
                     clear A140
                     obtain ⟨ji15, hji15⟩ : ∃ j_ : Int, (wrap64 (x22_1 + x29_2)) = j_ := ⟨_, rfl⟩
                     replace H : (if 0 ≤ (ji15) then (if (ji15) < (x5_2.length : Int) then (yda.l1 k2 l1 (x5_2.set ((ji15) : Int).toNat (yeb (yeb t1010 (rd x5_2 (ji15)) 0) x8_2 0)) x22_1 (rd l0 x22_1) (IntKind.u64.wrap ((IntKind.u64.wrap (t1009 + (yff t1010 (rd x5_2 (ji15)) 0))) + (yff (yeb t1010 (rd x5_2 (ji15)) 0) x8_2 0))) l0 (l0.length : Int) x22_1 l1 (l1.length : Int) (wrap64 (x29_2 + 1))) else (none)) else (none)) = some r := by first | (rw [hji15] at H; exact H) | (simp only [hji15] at H ⊢; exact H)
                     (try rw [hji15] at A14)
                     have hji15w : (IntKind.i64.wrap (x22_1 + x29_2)) = ji15 := (ydk _).trans hji15
                     by_cases c16 : 0 ≤ (ji15)
                     · rw [if_pos c16] at H
                       have c16b0 : decide (0 ≤ (ji15)) = true := decide_eq_true c16
                       clear c16
                       by_cases c17 : (ji15) < (x5_2.length : Int)
                       · rw [if_pos c17] at H
                         have c17b0 : decide ((ji15) < (x5_2.length : Int)) = true := decide_eq_true c17
                         clear c17
                         obtain ⟨y1012, hy1012⟩ : ∃ y_ : List Int, y_ = (x5_2.set ((ji15) : Int).toNat (yeb (yeb t1010 (rd x5_2 (ji15)) 0) x8_2 0)) := ⟨_, rfl⟩
                         replace H : (yda.l1 k2 l1 y1012 x22_1 (rd l0 x22_1) (IntKind.u64.wrap ((IntKind.u64.wrap (t1009 + (yff t1010 (rd x5_2 (ji15)) 0))) + (yff (yeb t1010 (rd x5_2 (ji15)) 0) x8_2 0))) l0 (l0.length : Int) x22_1 l1 (l1.length : Int) (wrap64 (x29_2 + 1))) = some r := by first | (rw [hy1012]; with_reducible exact H) | (have H2_ := (Option.bind_some _ _).symm.trans H; rw [hy1012]; with_reducible exact H2_) | (have H2_ := (Option.bind_some _ _).symm.trans H; with_reducible exact H2_) | with_reducible exact H | (rw [hy1012]; exact H) | exact H
                         have Ny1012 := Aside0.mk hy1012
                         clear hy1012
                         have H' := Aside0.mk H
                         clear H
                         have p1008 : 0 ≤ (x29_2 : Int) := of_decide_eq_true Z26_
                         have q1008 : x29_2 < (l1.length : Int) := of_decide_eq_true Z26_
                         obtain ⟨ad1008, e1008, hx1008_0⟩ := Kd.ybs HR1.out x29_2 p1008 q1008
                         cases e1008
                         replace hx1008_0 := (HB.out.cell (World.block_lt_of_cell? w _ hx1008_0)).trans hx1008_0
                         replace p1008 := eq_true p1008
                         replace q1008 := eq_true q1008
                         go_wp2_with (first | ((with_reducible refine yar (f := 92) rfl ?_); refine yce (some 37) rfl rfl Try.func92 (by kernel_rfl) rfl #[.int .u64 (rd l0 x22_1), .int .u64 (rd l1 x29_2)] rfl Z6_ ?_; (with_reducible refine (bits_Mul64.calls (rd l0 x22_1) (rd l1 x29_2) t1009 t1010 _ A14.out).mono ?_); rintro e w' ⟨rfl, ⟨nd, rfl⟩⟩; refine ⟨_, rfl, ?_⟩; (try ((first | generalize hq_ : World.drewN wr nq = wr | (rw [ydi wr]; generalize hq_ : World.drewN wr _ = wr)); have n0_ : Aside0 (Kd.R (Kd.int .u64) 61 wr w.heap.size (fun _ => True) v1002 x5_2) := ⟨by rw [← hq_]; exact Z19_⟩; have n1_ : Aside0 (Below w.heap.size w wr) := ⟨by rw [← hq_]; exact Z7_⟩; clear HO_5 HB hq_; have HO_5 := n0_; have HB := n1_; clear n0_ n1_)); obtain ⟨Ao19, co19, eo19⟩ := Kd.ybc HO_5.out; subst eo19; have p1011 : 0 ≤ ((ji15) : Int) := of_decide_eq_true Z26_; have q1011 : (ji15) < (x5_2.length : Int) := of_decide_eq_true Z26_; obtain ⟨ad1011, e1011, hx1011_0⟩ := Kd.ybs (Kd.R_reads' HO_5.out).2.2 (ji15) p1011 q1011; cases e1011; replace p1011 := eq_true p1011; replace q1011 := eq_true q1011; have p18 : 0 ≤ ((ji15) : Int) := of_decide_eq_true Z26_; have q18 : ((ji15) : Int) < ((x5_2.length : Int) : Int) := of_decide_eq_true Z26_; obtain ⟨go18, co18, eo18, gb18, gl18, cl18, HG18⟩ := Kd.yey HO_5.out (by omega); (first | cases eo18 | (injection eo18 with ea_ en_ ec_; (first | subst ea_ | (injection ea_ with ea_; subst ea_)); subst ec_; clear en_)); have GB18 := Aside0.mk gb18; have GG18 := Aside0.mk HG18; clear gb18 gl18 HG18; (first | simp only [add_plain] at hx1011_0 | skip); obtain ⟨hx18_0, hf18_0⟩ := Kd.ydb 0 HO_5.out ((ji15) : Int) p18 q18; replace p18 := eq_true p18; replace q18 := eq_true q18; obtain ⟨hy20_, hz20_⟩ := Kd.ydb 0 HO_5.out ((ji15) : Int) (of_decide_eq_true Z26_) (of_decide_eq_true Z26_); have HP20 := Kd.yej HO_5.out ((ji15) : Int) (yeb (yeb t1010 (rd x5_2 (ji15)) 0) x8_2 0)) | ((with_reducible refine ycm (t := 61) (p := 64) rfl ?_); refine ycw (t := 61) (p := 64) (v := ?vo_w21) (w1 := (wr.setCell ⟨go18, ((ji15) : Int).toNat, none⟩ (.int .u64 (yeb (yeb t1010 (rd x5_2 (ji15)) 0) x8_2 0)))) ?hg ?ho ?hn ?hr ?_; (case ho => rfl); (case hg => rfl); (case hn => rfl); (case hr => first | (go_simp; done) | (go_simp; rfl)); intro w21 hw; have hg : wr.grownBy w21 (some go18) := (by rw [hw]; exact HP20.2); have hp_ : Kd.R (Kd.int .u64) 61 w21 w.heap.size (fun _ => True) (.slice (some ⟨go18, 0, none⟩) x5_2.length co19) y1012 := (by rw [hw, Ny1012.out]; exact HP20.1); clear HP20; have n0_ := Aside0.mk (hp_); have n1_ := Aside0.mk ((by rw [hw]; exact ybx (HB.out) GB18.out : Below w.heap.size w w21)); clear HO_5; clear HB; have HO_5 := n0_; have HB := n1_; clear n0_ n1_; clear hg hw hp_))
                         go_roundg k2
                         case measure => have := HK1.out; have := HK2.out; omega
                         case rel => exact ⟨(y1012), (IntKind.u64.wrap ((IntKind.u64.wrap (t1009 + (yff t1010 (rd x5_2 (ji15)) 0))) + (yff (yeb t1010 (rd x5_2 (ji15)) 0) x8_2 0))), (wrap64 (x29_2 + 1)), (by first | rfl | (simp; done) | (simp only [← hji15] <;> (first | rfl | simp)) | (simp [*]; done)), Z27_, H', ⟨by have := HK1.out; have := HK2.out; omega⟩, ⟨by (with_reducible repeat (first | apply Kd.yba | apply Kd.yaz | apply Kd.ybi)); exact HO_5.out⟩, ⟨by repeat (first | (with_reducible first | exact HB.out | apply yad | apply yab | apply yac) | exact HB.out)⟩⟩
                       · rw [if_neg c17] at H
                         exact absurd H (by simp)
                     · rw [if_neg c16] at H
                       exact absurd H (by simp)
                   · rw [if_neg c13] at H
                     exact absurd H (by simp)
                 · rw [if_neg c12] at H
                   exact absurd H (by simp)
               · rw [if_neg c11] at H
                 have c11b0 : decide (x29_2 < (l1.length : Int)) = false := decide_eq_false c11
                 clear c11
                 obtain ⟨ji22, hji22⟩ : ∃ j_ : Int, (wrap64 (x22_1 + (l1.length : Int))) = j_ := ⟨_, rfl⟩
                 replace H : (if 0 ≤ (ji22) then (if (ji22) < (x5_2.length : Int) then (yda.l0 k2 l1 (x5_2.set ((ji22) : Int).toNat x8_2) l0 (l0.length : Int) (wrap64 (x22_1 + 1))) else (none)) else (none)) = some r := by first | (rw [hji22] at H; exact H) | (simp only [hji22] at H ⊢; exact H)
                 have hji22w : (IntKind.i64.wrap (x22_1 + (l1.length : Int))) = ji22 := (ydk _).trans hji22
                 by_cases c23 : 0 ≤ (ji22)
                 · rw [if_pos c23] at H
                   have c23b0 : decide (0 ≤ (ji22)) = true := decide_eq_true c23
                   clear c23
                   by_cases c24 : (ji22) < (x5_2.length : Int)
                   · rw [if_pos c24] at H
                     have c24b0 : decide ((ji22) < (x5_2.length : Int)) = true := decide_eq_true c24
                     clear c24
                     obtain ⟨y1013, hy1013⟩ : ∃ y_ : List Int, y_ = (x5_2.set ((ji22) : Int).toNat x8_2) := ⟨_, rfl⟩
                     replace H : (yda.l0 k2 l1 y1013 l0 (l0.length : Int) (wrap64 (x22_1 + 1))) = some r := by first | (rw [hy1013]; with_reducible exact H) | (have H2_ := (Option.bind_some _ _).symm.trans H; rw [hy1013]; with_reducible exact H2_) | (have H2_ := (Option.bind_some _ _).symm.trans H; with_reducible exact H2_) | with_reducible exact H | (rw [hy1013]; exact H) | exact H
                     have Ny1013 := Aside0.mk hy1013
                     clear hy1013
                     have H' := Aside0.mk H
                     clear H
                     have p25 : 0 ≤ ((ji22) : Int) := of_decide_eq_true Z26_
                     have q25 : ((ji22) : Int) < ((x5_2.length : Int) : Int) := of_decide_eq_true Z26_
                     obtain ⟨go25, co25, eo25, gb25, gl25, cl25, HG25⟩ := Kd.yey HO_5.out (by omega)
                     (first | cases eo25 | (injection eo25 with ea_ en_ ec_; (first | subst ea_ | (injection ea_ with ea_; subst ea_)); subst ec_; clear en_))
                     have GB25 := Aside0.mk gb25
                     have GG25 := Aside0.mk HG25
                     clear gb25 gl25 HG25
                     obtain ⟨hx25_0, hf25_0⟩ := Kd.ydb 0 HO_5.out ((ji22) : Int) p25 q25
                     replace p25 := eq_true p25
                     replace q25 := eq_true q25
                     have HP26 := Kd.yej HO_5.out ((ji22) : Int) x8_2
                     go_wp2_with (first | ((with_reducible refine ycm (t := 61) (p := 75) rfl ?_); refine ycw (t := 61) (p := 75) (v := ?vo_w27) (w1 := (wr.setCell ⟨go25, ((ji22) : Int).toNat, none⟩ (.int .u64 x8_2))) ?hg ?ho ?hn ?hr ?_; (case ho => rfl); (case hg => rfl); (case hn => rfl); (case hr => first | (go_simp; done) | (go_simp; rfl)); intro w27 hw; have hg : wr.grownBy w27 (some go25) := (by rw [hw]; exact HP26.2); have hp_ : Kd.R (Kd.int .u64) 61 w27 w.heap.size (fun _ => True) (.slice (some ⟨go25, 0, none⟩) x5_2.length co25) y1013 := (by rw [hw, Ny1013.out]; exact HP26.1); clear HP26; have n0_ := Aside0.mk (hp_); have n1_ := Aside0.mk ((by rw [hw]; exact ybx (HB.out) GB25.out : Below w.heap.size w w27)); clear HO_5; clear HB; have HO_5 := n0_; have HB := n1_; clear n0_ n1_; clear hg hw hp_))
                     go_roundg k2
                     case measure => have := HK1.out; have := HK2.out; omega
                     case rel => exact ⟨(y1013), (wrap64 (x22_1 + 1)), Z27_, H', ⟨by have := HK1.out; have := HK2.out; omega⟩, ⟨by (with_reducible repeat (first | apply Kd.yba | apply Kd.yaz | apply Kd.ybi)); exact HO_5.out⟩, ⟨by repeat (first | (with_reducible first | exact HB.out | apply yad | apply yab | apply yac) | exact HB.out)⟩⟩
                   · rw [if_neg c24] at H
                     exact absurd H (by simp)
                 · rw [if_neg c23] at H
                   exact absurd H (by simp)
           · rw [if_neg c10] at H
             exact absurd H (by simp)
         · rw [if_neg c9] at H
           exact absurd H (by simp)
       · rw [if_neg c8] at H
         have c8b0 : decide (x22_1 < (l0.length : Int)) = false := decide_eq_false c8
         clear c8
         replace H := Option.bind_eq_some_iff.mp H
         obtain ⟨t1004, A280, H⟩ := H
         replace H : (some t1004) = some r := H
         have A28 := Aside0.mk A280
         clear A280
         obtain rfl := Option.some.inj H
         obtain ⟨Ao29, co29, eo29⟩ := Kd.ybc HO_5.out
         subst eo29
         go_wp2_with (first | ((with_reducible refine yar (f := 54) rfl ?_); refine yce (some 78) rfl rfl Try.func54 (by kernel_rfl) rfl #[.slice Ao29 x5_1.length co29] rfl Z6_ ?_; (with_reducible refine (ybr.calls k1 _ _ x5_1 t1004 _ ?side1 ?side2 A28.out).mono ?_); (case side1 => repeat (first | exact (Kd.R_reads' HO_5.out).2.2 | (with_reducible refine Kd.yau ?_ _) | (with_reducible refine Kd.yaw ?_ _) | (with_reducible refine Kd.ybe ?_))); (case side2 => exact (Kd.R_reads' HO_5.out).2.1); rintro e w30 ⟨v1005, rfl, ho0, hb⟩; refine ⟨_, rfl, ?_⟩; have n0_ := Aside0.mk (Kd.R_elder' Z19_ (Kd.ycf ho0) hb); have n1_ := Aside0.mk (Kd.ybl (Kd.R_new' ho0 (Kd.R_lt Z19_)) (yaj Z7_)); have n2_ := Aside0.mk (yai Z7_ hb); clear HO_5; clear HB; have HO_5 := n0_; have HO1006 := n1_; have HB := n2_; clear n0_ n1_ n2_; (try clear hb); (try clear hb2); (try clear hk); (try clear hi); (try clear ho0)))
         go_ret
         exact ⟨_, by first | rfl | (simp [yap, yao] <;> rfl) | (simp only [← hji3]; first | rfl | (simp [yap, yao] <;> rfl)) | (simp [*, yap, yao] <;> rfl), by (with_reducible repeat (first | apply Kd.yba | apply Kd.yaz | apply Kd.ybi)); exact Kd.ycn HO1006.out (fun _ hk => trivial), by repeat (first | (with_reducible first | exact HB.out | apply yad | apply yab | apply yac) | exact HB.out)⟩
   · rw [if_neg c5] at H
     exact absurd H (by simp)
 · rw [if_neg c4] at H
   exact absurd H (by simp)
end Go.Proofs.Ytgnaaaliadiekaa.B
end
