/- A part of the proof (merged by pack.py, a program of this session: what the row's proof names). -/
import Derived.Test.YtgnaaaliadiekaaM4
import Derived.Test.YtgnaaaliadiekaaM5
import Derived.Test.YtgnaaaliadiekaaM14
import Derived.Test.YtgnaaaliadiekaaM18
import Derived.Test.YtgnaaaliadiekaaM19
import Derived.Test.YtgnaaaliadiekaaM20
import Derived.Test.YtgnaaaliadiekaaM0
section
namespace Go.Proofs.Ytgnaaaliadiekaa.B
open Go.RowKit Go.Proofs.YtgnaaaliadiekaaW.PrintWords Go.Proofs.YtgnaaaliadiekaaW.PrintLast Go.Proofs.YtgnaaaliadiekaaW.PrintMore
attribute [local go_sem] ycj ych ycs ycr ybw ybv yci ycg   -- for this text's walks alone
attribute [local go_sem] yca ybn ybz ybm
set_option linter.unusedVariables false
set_option linter.unusedSimpArgs false
mutual
def yan.l0 : Nat → List Int → List Int → List Int → List Int → Int → Int → Option (List Int × List Int)
 | 0, _, _, _, _, _, _ => none
 | k + 1, x0, x1, x6, x7, x8, x9 => if x9 ≥ 0 then (if 0 ≤ x9 then (if x9 < (x0.length : Int) then ((some (([rd x0 x9] : List Int) : List Int)).bind fun y1011 => (if y1011.length + x7.length < 17592186044416 then ((yam.f k (y1011 ++ x7)).bind fun t1017 => (yan.l1 k x0 x1 x6 t1017 x8 x9)) else (none))) else (none)) else (none)) else ((yam.f k x6).bind fun t1007 => (some (t1007, x7)))
def yan.l1 : Nat → List Int → List Int → List Int → List Int → Int → Int → Option (List Int × List Int)
 | 0, _, _, _, _, _, _ => none
 | k + 1, x0, x1, x6, x7, x8, x9 => (yas.f k x7 x1).bind fun t1020 => (if t1020 ≥ 0 then (if 0 ≤ (wrap64 (x8 - 1)) then (if (wrap64 (x8 - 1)) < (x7.length : Int) then (if (x7.length : Int) > x8 then (if 0 ≤ x8 then (if x8 < (x7.length : Int) then (if (wrap64 (x8 - 1)) < (x1.length : Int) then (if (wrap64 ((rd x1 (wrap64 (x8 - 1))) + 1)) = 0 then (none) else ((yat.f k (mx (wrap64 (Int.tdiv (wrap64 ((rd x7 (wrap64 (x8 - 1))) + (wrap64 (65536 * (rd x7 x8))))) (wrap64 ((rd x1 (wrap64 (x8 - 1))) + 1)))) 1)).bind fun t1024 => ((yaf.f k x1 t1024).bind fun t1027 => ((ybb.f k x7 t1027).bind fun t1030 => (if 0 ≤ x9 then (if x9 < (x6.length : Int) then (yan.l1 k x0 x1 (x6.set (x9 : Int).toNat (wrap64 ((rd x6 x9) + (mx (wrap64 (Int.tdiv (wrap64 ((rd x7 (wrap64 (x8 - 1))) + (wrap64 (65536 * (rd x7 x8))))) (wrap64 ((rd x1 (wrap64 (x8 - 1))) + 1)))) 1)))) t1030 x8 x9) else (none)) else (none)))))) else (none)) else (none)) else (none)) else (if (wrap64 (x8 - 1)) < (x1.length : Int) then (if (wrap64 ((rd x1 (wrap64 (x8 - 1))) + 1)) = 0 then (none) else ((yat.f k (mx (wrap64 (Int.tdiv (rd x7 (wrap64 (x8 - 1))) (wrap64 ((rd x1 (wrap64 (x8 - 1))) + 1)))) 1)).bind fun t1036 => ((yaf.f k x1 t1036).bind fun t1039 => ((ybb.f k x7 t1039).bind fun t1042 => (if 0 ≤ x9 then (if x9 < (x6.length : Int) then (yan.l1 k x0 x1 (x6.set (x9 : Int).toNat (wrap64 ((rd x6 x9) + (mx (wrap64 (Int.tdiv (rd x7 (wrap64 (x8 - 1))) (wrap64 ((rd x1 (wrap64 (x8 - 1))) + 1)))) 1)))) t1042 x8 x9) else (none)) else (none)))))) else (none))) else (none)) else (none)) else (yan.l0 k x0 x1 x6 x7 x8 (wrap64 (x9 - 1))))
end
def yan.f (k : Nat) (l0 : List Int) (l1 : List Int) : Option (List Int × List Int) := if 0 ≤ (l0.length : Int) then (if ((l0.length : Int) : Int).toNat ≤ 35184372088832 then (yan.l0 k l0 l1 (List.replicate ((l0.length : Int) : Int).toNat 0) (([] : List Int)) (l1.length : Int) (wrap64 ((l0.length : Int) - 1))) else (none)) else (none)
set_option maxHeartbeats 8000000 in
set_option maxRecDepth 100000 in
theorem yan.calls (k : Nat) (A0 : Option Addr) (c0 : Nat) (l0 : List Int) (A1 : Option Addr) (c1 : Nat) (l1 : List Int) (r1 : List Int) (r2 : List Int) (w : World) (hr0 : Kd.C (Kd.int .i64) w A0 l0.length l0) (hc0 : l0.length ≤ c0) (hr1 : Kd.C (Kd.int .i64) w A1 l1.length l1) (hc1 : l1.length ≤ c1) (h : yan.f k l0 l1 = some (r1, r2)) :
 Calls Try.prog 87 #[.slice A0 l0.length c0, .slice A1 l1.length c1] w fun e w' => ∃ v0_ v1_ : Value, e = .returned (.tuple #[v0_, v1_]) ∧ Kd.R (Kd.int .i64) 3 w' w.heap.size (fun k_ => some k_ ≠ (v1_ : Value).ownBlock) v0_ r1 ∧ Kd.R (Kd.int .i64) 3 w' w.heap.size (fun k_ => some k_ ≠ (v0_ : Value).ownBlock) v1_ r2 ∧ Below w.heap.size w w' := by
 have HR0 := Aside0.mk hr0
 have HC0 := Aside0.mk hc0
 clear hr0 hc0
 have HR1 := Aside0.mk hr1
 have HC1 := Aside0.mk hc1
 clear hr1 hc1
 have HB := Aside0.mk (Below.refl w.heap.size w)
 have H : (if 0 ≤ (l0.length : Int) then (if ((l0.length : Int) : Int).toNat ≤ 35184372088832 then (yan.l0 k l0 l1 (List.replicate ((l0.length : Int) : Int).toNat 0) (([] : List Int)) (l1.length : Int) (wrap64 ((l0.length : Int) - 1))) else (none)) else (none)) = some (r1, r2) := h
 clear h
 by_cases c3 : 0 ≤ (l0.length : Int)
 · rw [if_pos c3] at H
   have c3b0 := eq_true c3
   have c3b1 : decide (0 ≤ (l0.length : Int)) = true := decide_eq_true c3
   clear c3
   by_cases c4 : ((l0.length : Int) : Int).toNat ≤ 35184372088832
   · rw [if_pos c4] at H
     have c4b0 := eq_true c4
     have c4b1 : decide (((l0.length : Int) : Int).toNat ≤ 35184372088832) = true := decide_eq_true c4
     clear c4
     obtain ⟨y1001, hy1001⟩ : ∃ y_ : List Int, y_ = (List.replicate ((l0.length : Int) : Int).toNat 0) := ⟨_, rfl⟩
     replace H : (yan.l0 k l0 l1 y1001 (([] : List Int)) (l1.length : Int) (wrap64 ((l0.length : Int) - 1))) = some (r1, r2) := by first | (rw [hy1001]; with_reducible exact H) | (have H2_ := (Option.bind_some _ _).symm.trans H; rw [hy1001]; with_reducible exact H2_) | (have H2_ := (Option.bind_some _ _).symm.trans H; with_reducible exact H2_) | with_reducible exact H | (rw [hy1001]; exact H) | exact H
     have Ny1001 := Aside0.mk hy1001
     clear hy1001
     obtain ⟨y1004, hy1004⟩ : ∃ y_ : List Int, y_ = (([] : List Int)) := ⟨_, rfl⟩
     replace H : (yan.l0 k l0 l1 y1001 y1004 (l1.length : Int) (wrap64 ((l0.length : Int) - 1))) = some (r1, r2) := by first | (rw [hy1004]; with_reducible exact H) | (have H2_ := (Option.bind_some _ _).symm.trans H; rw [hy1004]; with_reducible exact H2_) | (have H2_ := (Option.bind_some _ _).symm.trans H; with_reducible exact H2_) | with_reducible exact H | (rw [hy1004]; exact H) | exact H
     have Ny1004 := Aside0.mk hy1004
     clear hy1004
     have H' := Aside0.mk H
     clear H
     go_enter Try.func87, Try.ntmps87
     go_wp2_with (first | ((with_reducible refine ybu (N := 14) rfl ?_); refine Kd.yhb (Kd.int .i64) _ 3 rfl (N := 14) rfl 28 _ _ rfl (l0.length : Int) rfl rfl Try.underlying28 (.int .i64 0) 8 info3 rfl (by decide) (by omega) 0 (ok := fun _ => True) (okp := fun _ => True) rfl (fun _ hk => hk) trivial (of_decide_eq_true Z26_) (Nat.le_trans (Nat.mul_le_mul_right _ (of_decide_eq_true Z26_ : (l0.length : Int).toNat ≤ 35184372088832)) (by omega)) (Below.refl _ _) (Nat.le_refl _) ?_; intro v1002 w5 ho6 hb hg_ hnew_; clear hg_ hnew_; (first | rw [← Ny1001.out] at ho6 | (simp only [Int.reduceToNat] at ho6; rw [← Ny1001.out] at ho6)); have n0_ := Aside0.mk (Kd.ybl ho6 (yaj Z7_)); have n1_ := Aside0.mk (yai Z7_ hb); clear HB; have HO1003 := n0_; have HB := n1_; clear n0_ n1_; clear hb ho6) | ((with_reducible refine ybu (N := 15) rfl ?_); refine Kd.R_lit (Kd.int .i64) _ 3 ?hg (N := 15) ?hd (xs := ([] : List Int)) (inner := []) (ok := fun _ => True) (okp := fun _ => True) ?hr ?hp (fun _ hk => hk) trivial (Below.refl _ _) (Nat.le_refl _) (by simp) ?_; (case hd => rfl); (case hg => rfl); (case hr => first | (go_simp; done) | (go_simp; rfl)); (case hp => exact (Reps.none _ _)); intro v1005 w7 ho8 hb hg_ hnew_; clear hg_ hnew_; (first | rw [← Ny1004.out] at ho8 | (simp only [Int.reduceToNat] at ho8; rw [← Ny1004.out] at ho8)); have n0_ := Aside0.mk (Kd.R_elder' Z9_ (Kd.ycf ho8) hb); have n1_ := Aside0.mk (Kd.ybl (Kd.R_new' ho8 (Kd.R_lt Z9_)) (yaj Z7_)); have n2_ := Aside0.mk (yai Z7_ hb); clear HO1003; clear HB; have HO1003 := n0_; have HO1006 := n1_; have HB := n2_; clear n0_ n1_ n2_; clear hb ho8))
     go_loopg [7, 9] k (fun kq v7 v9 w' => ∃ (x6_1 : List Int) (x7_1 : List Int) (x9_1 : Int), v9 = .int .i64 x9_1 ∧ Aside0 (yan.l0 kq l0 l1 x6_1 x7_1 (l1.length : Int) x9_1 = some (r1, r2)) ∧ Aside0 (kq ≤ k) ∧ Aside0 (Kd.R (Kd.int .i64) 3 w' w.heap.size (fun k_ => some k_ ≠ (v7 : Value).ownBlock) v1002 x6_1) ∧ Aside0 (Kd.R (Kd.int .i64) 3 w' w.heap.size (fun k_ => some k_ ≠ (v1002 : Value).ownBlock) v7 x7_1) ∧ Aside0 (Below w.heap.size w w'))
     case atStart => exact ⟨(y1001), (y1004), (wrap64 ((l0.length : Int) - 1)), Z27_, H', ⟨Nat.le_refl _⟩, ⟨by (with_reducible repeat (first | apply Kd.yba | apply Kd.yaz | apply Kd.ybi)); exact Kd.ycn HO1003.out (fun _ hk => hk.2)⟩, ⟨by (with_reducible repeat (first | apply Kd.yba | apply Kd.yaz | apply Kd.ybi)); exact Kd.ycn HO1006.out (fun _ hk => hk.2)⟩, ⟨by repeat (first | (with_reducible first | exact HB.out | apply yad | apply yab | apply yac) | exact HB.out)⟩⟩
     case round =>
      clear H'
      try clear c1
      try clear p2
      try clear c3
      try clear c3b0
      try clear c3b1
      try clear c4
      try clear c4b0
      try clear c4b1
      try clear p6
      try clear c8
      obtain ⟨x6_1, x7_1, x9_1, rfl, HA, HK1, HO_6, HO_7, HB⟩ := hrel
      cases gk with
      | zero => exact absurd HA.out (by simp [yan.l0])
      | succ k1 =>
       have H := HA.out
       clear HA
       simp only [yan.l0] at H
       by_cases c9 : x9_1 ≥ 0
       · rw [if_pos c9] at H
         have c9b0 : decide (0 ≤ x9_1) = true := decide_eq_true c9
         clear c9
         by_cases c10 : 0 ≤ x9_1
         · rw [if_pos c10] at H
           have c10b0 : decide (0 ≤ x9_1) = true := decide_eq_true c10
           clear c10
           by_cases c11 : x9_1 < (l0.length : Int)
           · rw [if_pos c11] at H
             have c11b0 : decide (x9_1 < (l0.length : Int)) = true := decide_eq_true c11
             clear c11
             obtain ⟨y1011, hy1011⟩ : ∃ y_ : List Int, y_ = (([rd l0 x9_1] : List Int)) := ⟨_, rfl⟩
             replace H : (if y1011.length + x7_1.length < 17592186044416 then ((yam.f k1 (y1011 ++ x7_1)).bind fun t1017 => (yan.l1 k1 l0 l1 x6_1 t1017 (l1.length : Int) x9_1)) else (none)) = some (r1, r2) := by first | (rw [hy1011]; with_reducible exact H) | (have H2_ := (Option.bind_some _ _).symm.trans H; rw [hy1011]; with_reducible exact H2_) | (have H2_ := (Option.bind_some _ _).symm.trans H; with_reducible exact H2_) | with_reducible exact H | (rw [hy1011]; exact H) | exact H
             have Ny1011 := Aside0.mk hy1011
             clear hy1011
             by_cases c12 : y1011.length + x7_1.length < 17592186044416
             · rw [if_pos c12] at H
               have LMc12 := Aside0.mk c12
               clear c12
               obtain ⟨y1014, hy1014⟩ : ∃ y_ : List Int, y_ = (y1011 ++ x7_1) := ⟨_, rfl⟩
               replace H : ((yam.f k1 y1014).bind fun t1017 => (yan.l1 k1 l0 l1 x6_1 t1017 (l1.length : Int) x9_1)) = some (r1, r2) := by first | (rw [hy1014]; with_reducible exact H) | (have H2_ := (Option.bind_some _ _).symm.trans H; rw [hy1014]; with_reducible exact H2_) | (have H2_ := (Option.bind_some _ _).symm.trans H; with_reducible exact H2_) | with_reducible exact H | (rw [hy1014]; exact H) | exact H
               have Ny1014 := Aside0.mk hy1014
               clear hy1014
               replace H := Option.bind_eq_some_iff.mp H
               obtain ⟨t1017, A130, H⟩ := H
               replace H : (yan.l1 k1 l0 l1 x6_1 t1017 (l1.length : Int) x9_1) = some (r1, r2) := H
               have A13 := Aside0.mk A130
               clear A130
               have H' := Aside0.mk H
               clear H
               have p1010 : 0 ≤ (x9_1 : Int) := of_decide_eq_true Z26_
               have q1010 : x9_1 < (l0.length : Int) := of_decide_eq_true Z26_
               obtain ⟨ad1010, e1010, hx1010_0⟩ := Kd.ybs HR0.out x9_1 p1010 q1010
               cases e1010
               replace hx1010_0 := (HB.out.cell (World.block_lt_of_cell? w _ hx1010_0)).trans hx1010_0
               replace p1010 := eq_true p1010
               replace q1010 := eq_true q1010
               go_wp2_with (first | ((with_reducible refine ybu (N := 29) rfl ?_); refine Kd.R_lit (Kd.int .i64) _ 3 ?hg (N := 29) ?hd (xs := ([rd l0 x9_1] : List Int)) (inner := [.int .i64 (rd l0 x9_1)]) (ok := fun _ => True) (okp := fun _ => True) ?hr ?hp (fun _ hk => hk) trivial (Below.refl _ _) (Nat.le_refl _) (by simp) ?_; (case hd => rfl); (case hg => rfl); (case hr => first | (go_simp; done) | (go_simp; rfl)); (case hp => exact (Reps.one (show Kd.M (Kd.int .i64) _ _ _ (rd l0 x9_1) [.int .i64 (rd l0 x9_1)] from rfl) (Reps.none _ _))); intro v1012 w14 ho15 hb hg_ hnew_; clear hg_ hnew_; (first | rw [← Ny1011.out] at ho15 | (simp only [Int.reduceToNat] at ho15; rw [← Ny1011.out] at ho15)); have n0_ := Aside0.mk (Kd.R_elder' Z20_ (Kd.ycf ho15) hb); have n1_ := Aside0.mk (Kd.R_elder' Z21_ (Kd.ycf ho15) hb); have n2_ := Aside0.mk (Kd.ybl (Kd.R_new' (Kd.R_new' ho15 (Kd.R_lt Z20_)) (Kd.R_lt Z21_)) (yaj Z7_)); have n3_ := Aside0.mk (yai Z7_ hb); clear HO_6; clear HO_7; clear HB; have HO_6 := n0_; have HO_7 := n1_; have HO1013 := n2_; have HB := n3_; clear n0_ n1_ n2_ n3_; clear hb ho15; obtain ⟨Ao17, co17, eo17⟩ := Kd.ybc HO_7.out; subst eo17) | ((with_reducible refine ycl (b := .append) (xs := #[.tmp 29, .tmp 30]) rfl ?_); at_builtin; refine Kd.yeh (Kd.int .i64) (w0 := w) w.heap.size rfl (.tmp 29) (.tmp 30) 28 3 (.int .i64 0) 8 rfl Try.underlying28 info3 rfl (by decide) (by omega) v1012 y1011 x7_1 _ _ _ (fun k_ => some k_ ≠ (v1002 : Value).ownBlock ∧ some k_ ≠ (.slice Ao17 x7_1.length co17 : Value).ownBlock) (fun _ => False) rfl rfl ?aO ?aR (fun _ _ h => h) (fun _ h => h.elim) ?aF ?aB ?aS ?aL ?_; (case aR => repeat (first | exact (Kd.R_reads' HO_7.out).2.2 | (with_reducible refine Kd.yau ?_ _) | (with_reducible refine Kd.yaw ?_ _) | (with_reducible refine Kd.ybe ?_))); (case aB => exact Z7_); (case aF => exact (fun k_ hk => ⟨Kd.fresh' (Kd.R_lt Z20_) k_ hk, Kd.fresh' (Kd.R_lt Z21_) k_ hk⟩)); (case aO => exact (by (with_reducible repeat (first | apply Kd.yba | apply Kd.yaz | apply Kd.ybi)); exact Kd.ycn HO1013.out (fun _ hk => ⟨hk.1.2, hk.2⟩))); (case aS => exact (yaj Z7_)); (case aL => have := LMc12.out; omega); intro v1015 w16 ho hb hg hat; rw [← Ny1014.out] at ho; have n0_ := Aside0.mk (Kd.yga (ok := (fun k_ => some k_ ≠ (.slice Ao17 x7_1.length co17 : Value).ownBlock)) Z20_ hg hat); have n1_ := Aside0.mk (Kd.yga (ok := (fun k_ => some k_ ≠ (v1002 : Value).ownBlock)) Z21_ hg hat); have n2_ := Aside0.mk (hb); have n3_ := Aside0.mk (ho); clear HO_6; clear HO_7; clear HB; clear HO1013; have HO_6 := n0_; have HO_7 := n1_; have HB := n2_; have HO1016 := n3_; clear n0_ n1_ n2_ n3_; clear ho hb hg hat; obtain ⟨Ao18, co18, eo18⟩ := Kd.ybc HO1016.out; subst eo18) | ((with_reducible refine yar (f := 43) rfl ?_); refine yce (some 32) rfl rfl Try.func43 (by kernel_rfl) rfl #[.slice Ao18 y1014.length co18] rfl Z6_ ?_; (with_reducible refine (yam.calls k1 (fun k_ => some k_ = (.slice Ao18 y1014.length co18 : Value).ownBlock) (.slice Ao18 y1014.length co18) y1014 t1017 w _ ?side1 ?side2 A13.out).mono ?_); (case side1 => repeat (first | (with_reducible first | exact HB.out | apply yad | apply yab | apply yac) | exact HB.out)); (case side2 => exact Kd.yfh rfl HO1016.out); rintro e w19 ⟨v1018, rfl, ho0, hb, hkp⟩; refine ⟨_, rfl, ?_⟩; have n0_ := Aside0.mk (Kd.ycn (ok' := fun k_ => some k_ ≠ (.slice Ao17 x7_1.length co17 : Value).ownBlock ∧ some k_ ≠ (v1018 : Value).ownBlock) (Kd.R_keptB (HO_6.out) hkp (fun k_ hk_ hs_ => (hk_.2) hs_)) (fun k_ hk_ => ⟨hk_.1.1, fun e_ => Or.elim (ho0.1 k_ e_.symm) (fun hs_ => hk_.2.1 hs_) (fun hn_ => Nat.not_le.2 hk_.2.2 hn_)⟩)); have n1_ := Aside0.mk (Kd.ycn (ok' := fun k_ => some k_ ≠ (v1002 : Value).ownBlock ∧ some k_ ≠ (v1018 : Value).ownBlock) (Kd.R_keptB (HO_7.out) hkp (fun k_ hk_ hs_ => (hk_.2) hs_)) (fun k_ hk_ => ⟨hk_.1.1, fun e_ => Or.elim (ho0.1 k_ e_.symm) (fun hs_ => hk_.2.1 hs_) (fun hn_ => Nat.not_le.2 hk_.2.2 hn_)⟩)); have n2_ := Aside0.mk (Kd.ycn (ok' := fun k_ => some k_ ≠ (v1002 : Value).ownBlock ∧ some k_ ≠ (.slice Ao17 x7_1.length co17 : Value).ownBlock) ho0 (fun k_ hk_ => ⟨Or.elim hk_ (fun hs_ => fun e_ => (((HO_6.out).1 k_ e_.symm).2) hs_) (fun hn_ => (Kd.fresh' (Kd.R_lt Z20_) k_ hn_)), Or.elim hk_ (fun hs_ => fun e_ => (((HO_7.out).1 k_ e_.symm).2) hs_) (fun hn_ => (Kd.fresh' (Kd.R_lt Z21_) k_ hn_))⟩)); have n3_ := Aside0.mk (hb); clear HO_6; clear HO_7; clear HB; clear HO1016; have HO_6 := n0_; have HO_7 := n1_; have HO1019 := n2_; have HB := n3_; clear n0_ n1_ n2_ n3_; (try clear hb); (try clear hkp); (try clear ho0)))
               go_loopg [7] k1 (fun kq v7 w' => ∃ (x6_2 : List Int) (x7_2 : List Int), Aside0 (yan.l1 kq l0 l1 x6_2 x7_2 (l1.length : Int) x9_1 = some (r1, r2)) ∧ Aside0 (kq ≤ k1) ∧ Aside0 (Kd.R (Kd.int .i64) 3 w' w.heap.size (fun k_ => some k_ ≠ (v7 : Value).ownBlock) v1002 x6_2) ∧ Aside0 (Kd.R (Kd.int .i64) 3 w' w.heap.size (fun k_ => some k_ ≠ (v1002 : Value).ownBlock) v7 x7_2) ∧ Aside0 (Below w.heap.size w w'))
               case atStart => exact ⟨(x6_1), (t1017), H', ⟨Nat.le_refl _⟩, ⟨by (with_reducible repeat (first | apply Kd.yba | apply Kd.yaz | apply Kd.ybi)); exact Kd.ycn HO_6.out (fun _ hk => hk.2)⟩, ⟨by (with_reducible repeat (first | apply Kd.yba | apply Kd.yaz | apply Kd.ybi)); exact Kd.ycn HO1019.out (fun _ hk => hk.1)⟩, ⟨by repeat (first | (with_reducible first | exact HB.out | apply yad | apply yab | apply yac) | exact HB.out)⟩⟩
               case round =>
                clear H'
                try clear c1
                try clear p1
                try clear q1
                try clear hx1
                try clear p2
                try clear c3
                try clear c3b0
                try clear c3b1
                try clear c4
                try clear c4b0
                try clear c4b1
                try clear p6
                try clear c8
                try clear c9
                try clear c9b0
                try clear c10
                try clear c10b0
                try clear p10
                try clear q10
                try clear hx10
                try clear c11
                try clear c11b0
                try clear c12
                try clear hx1010_0
                try clear p1010
                try clear p2
                try clear p6
                try clear q1010
                obtain ⟨x6_2, x7_2, HA, HK2, HO_6, HO_7, HB⟩ := hrel
                cases gk with
                | zero => exact absurd HA.out (by simp [yan.l1])
                | succ k2 =>
                 have H := HA.out
                 clear HA
                 simp only [yan.l1] at H
                 replace H := Option.bind_eq_some_iff.mp H
                 obtain ⟨t1020, A200, H⟩ := H
                 replace H : (if t1020 ≥ 0 then (if 0 ≤ (wrap64 ((l1.length : Int) - 1)) then (if (wrap64 ((l1.length : Int) - 1)) < (x7_2.length : Int) then (if (x7_2.length : Int) > (l1.length : Int) then (if 0 ≤ (l1.length : Int) then (if (l1.length : Int) < (x7_2.length : Int) then (if (wrap64 ((l1.length : Int) - 1)) < (l1.length : Int) then (if (wrap64 ((rd l1 (wrap64 ((l1.length : Int) - 1))) + 1)) = 0 then (none) else ((yat.f k2 (mx (wrap64 (Int.tdiv (wrap64 ((rd x7_2 (wrap64 ((l1.length : Int) - 1))) + (wrap64 (65536 * (rd x7_2 (l1.length : Int)))))) (wrap64 ((rd l1 (wrap64 ((l1.length : Int) - 1))) + 1)))) 1)).bind fun t1024 => ((yaf.f k2 l1 t1024).bind fun t1027 => ((ybb.f k2 x7_2 t1027).bind fun t1030 => (if 0 ≤ x9_1 then (if x9_1 < (x6_2.length : Int) then (yan.l1 k2 l0 l1 (x6_2.set (x9_1 : Int).toNat (wrap64 ((rd x6_2 x9_1) + (mx (wrap64 (Int.tdiv (wrap64 ((rd x7_2 (wrap64 ((l1.length : Int) - 1))) + (wrap64 (65536 * (rd x7_2 (l1.length : Int)))))) (wrap64 ((rd l1 (wrap64 ((l1.length : Int) - 1))) + 1)))) 1)))) t1030 (l1.length : Int) x9_1) else (none)) else (none)))))) else (none)) else (none)) else (none)) else (if (wrap64 ((l1.length : Int) - 1)) < (l1.length : Int) then (if (wrap64 ((rd l1 (wrap64 ((l1.length : Int) - 1))) + 1)) = 0 then (none) else ((yat.f k2 (mx (wrap64 (Int.tdiv (rd x7_2 (wrap64 ((l1.length : Int) - 1))) (wrap64 ((rd l1 (wrap64 ((l1.length : Int) - 1))) + 1)))) 1)).bind fun t1036 => ((yaf.f k2 l1 t1036).bind fun t1039 => ((ybb.f k2 x7_2 t1039).bind fun t1042 => (if 0 ≤ x9_1 then (if x9_1 < (x6_2.length : Int) then (yan.l1 k2 l0 l1 (x6_2.set (x9_1 : Int).toNat (wrap64 ((rd x6_2 x9_1) + (mx (wrap64 (Int.tdiv (rd x7_2 (wrap64 ((l1.length : Int) - 1))) (wrap64 ((rd l1 (wrap64 ((l1.length : Int) - 1))) + 1)))) 1)))) t1042 (l1.length : Int) x9_1) else (none)) else (none)))))) else (none))) else (none)) else (none)) else (yan.l0 k2 l0 l1 x6_2 x7_2 (l1.length : Int) (wrap64 (x9_1 - 1)))) = some (r1, r2) := H
                 have A20 := Aside0.mk A200
                 clear A200
                 by_cases c21 : t1020 ≥ 0
                 · rw [if_pos c21] at H
                   have c21b0 : decide (0 ≤ t1020) = true := decide_eq_true c21
                   clear c21
                   obtain ⟨ji22, hji22⟩ : ∃ j_ : Int, (wrap64 ((l1.length : Int) - 1)) = j_ := ⟨_, rfl⟩
                   replace H : (if 0 ≤ (ji22) then (if (ji22) < (x7_2.length : Int) then (if (x7_2.length : Int) > (l1.length : Int) then (if 0 ≤ (l1.length : Int) then (if (l1.length : Int) < (x7_2.length : Int) then (if (ji22) < (l1.length : Int) then (if (wrap64 ((rd l1 (ji22)) + 1)) = 0 then (none) else ((yat.f k2 (mx (wrap64 (Int.tdiv (wrap64 ((rd x7_2 (ji22)) + (wrap64 (65536 * (rd x7_2 (l1.length : Int)))))) (wrap64 ((rd l1 (ji22)) + 1)))) 1)).bind fun t1024 => ((yaf.f k2 l1 t1024).bind fun t1027 => ((ybb.f k2 x7_2 t1027).bind fun t1030 => (if 0 ≤ x9_1 then (if x9_1 < (x6_2.length : Int) then (yan.l1 k2 l0 l1 (x6_2.set (x9_1 : Int).toNat (wrap64 ((rd x6_2 x9_1) + (mx (wrap64 (Int.tdiv (wrap64 ((rd x7_2 (ji22)) + (wrap64 (65536 * (rd x7_2 (l1.length : Int)))))) (wrap64 ((rd l1 (ji22)) + 1)))) 1)))) t1030 (l1.length : Int) x9_1) else (none)) else (none)))))) else (none)) else (none)) else (none)) else (if (ji22) < (l1.length : Int) then (if (wrap64 ((rd l1 (ji22)) + 1)) = 0 then (none) else ((yat.f k2 (mx (wrap64 (Int.tdiv (rd x7_2 (ji22)) (wrap64 ((rd l1 (ji22)) + 1)))) 1)).bind fun t1036 => ((yaf.f k2 l1 t1036).bind fun t1039 => ((ybb.f k2 x7_2 t1039).bind fun t1042 => (if 0 ≤ x9_1 then (if x9_1 < (x6_2.length : Int) then (yan.l1 k2 l0 l1 (x6_2.set (x9_1 : Int).toNat (wrap64 ((rd x6_2 x9_1) + (mx (wrap64 (Int.tdiv (rd x7_2 (ji22)) (wrap64 ((rd l1 (ji22)) + 1)))) 1)))) t1042 (l1.length : Int) x9_1) else (none)) else (none)))))) else (none))) else (none)) else (none)) = some (r1, r2) := by first | (rw [hji22] at H; exact H) | (simp only [hji22] at H ⊢; exact H)
                   (try rw [hji22] at A20)
                   have hji22w : (IntKind.i64.wrap ((l1.length : Int) - 1)) = ji22 := (ydk _).trans hji22
                   by_cases c23 : 0 ≤ (ji22)
                   · rw [if_pos c23] at H
                     have c23b0 : decide (0 ≤ (ji22)) = true := decide_eq_true c23
                     clear c23
                     by_cases c24 : (ji22) < (x7_2.length : Int)
                     · rw [if_pos c24] at H
                       have c24b0 : decide ((ji22) < (x7_2.length : Int)) = true := decide_eq_true c24
                       clear c24
                       by_cases c25 : (x7_2.length : Int) > (l1.length : Int)
                       · rw [if_pos c25] at H
                         have c25b0 : decide ((l1.length : Int) < (x7_2.length : Int)) = true := decide_eq_true c25
                         have c25b1 : decide (l1.length < x7_2.length) = true := decide_eq_true (Int.ofNat_lt.mp c25)
                         clear c25
                         by_cases c26 : 0 ≤ (l1.length : Int)
                         · rw [if_pos c26] at H
                           have c26b0 : decide (0 ≤ (l1.length : Int)) = true := decide_eq_true c26
                           have c26b1 : decide (0 ≤ l1.length) = true := decide_eq_true (by omega)
                           clear c26
                           by_cases c27 : (l1.length : Int) < (x7_2.length : Int)
                           · rw [if_pos c27] at H
                             have c27b0 : decide ((l1.length : Int) < (x7_2.length : Int)) = true := decide_eq_true c27
                             have c27b1 : decide (l1.length < x7_2.length) = true := decide_eq_true (Int.ofNat_lt.mp c27)
                             clear c27
                             by_cases c28 : (ji22) < (l1.length : Int)
                             · rw [if_pos c28] at H
                               have c28b0 : decide ((ji22) < (l1.length : Int)) = true := decide_eq_true c28
                               clear c28
                               by_cases c29 : (wrap64 ((rd l1 (ji22)) + 1)) = 0
                               · rw [if_pos c29] at H
                                 exact absurd H (by simp)
                               · rw [if_neg c29] at H
                                 have c29b0 : ((wrap64 ((rd l1 (ji22)) + 1)) == 0) = false := beq_eq_false_iff_ne.mpr c29
                                 have c29b1 : ((wrap64 ((rd l1 (ji22)) + 1)) != 0) = true := bne_iff_ne.mpr c29
                                 obtain ⟨ji30, hji30⟩ : ∃ j_ : Int, (mx (wrap64 (Int.tdiv (wrap64 ((rd x7_2 (ji22)) + (wrap64 (65536 * (rd x7_2 (l1.length : Int)))))) (wrap64 ((rd l1 (ji22)) + 1)))) 1) = j_ := ⟨_, rfl⟩
                                 replace H : ((yat.f k2 (ji30)).bind fun t1024 => ((yaf.f k2 l1 t1024).bind fun t1027 => ((ybb.f k2 x7_2 t1027).bind fun t1030 => (if 0 ≤ x9_1 then (if x9_1 < (x6_2.length : Int) then (yan.l1 k2 l0 l1 (x6_2.set (x9_1 : Int).toNat (wrap64 ((rd x6_2 x9_1) + (ji30)))) t1030 (l1.length : Int) x9_1) else (none)) else (none))))) = some (r1, r2) := by first | (rw [hji30] at H; exact H) | (simp only [hji30] at H ⊢; exact H)
                                 (try rw [hji30] at A20)
                                 have hji30_ : (if (wrap64 (Int.tdiv (wrap64 ((rd x7_2 (ji22)) + (wrap64 (65536 * (rd x7_2 (l1.length : Int)))))) (wrap64 ((rd l1 (ji22)) + 1)))) < 1 then 1 else (wrap64 (Int.tdiv (wrap64 ((rd x7_2 (ji22)) + (wrap64 (65536 * (rd x7_2 (l1.length : Int)))))) (wrap64 ((rd l1 (ji22)) + 1))))) = ji30 := hji30
                                 replace H := Option.bind_eq_some_iff.mp H
                                 obtain ⟨t1024, A310, H⟩ := H
                                 replace H : ((yaf.f k2 l1 t1024).bind fun t1027 => ((ybb.f k2 x7_2 t1027).bind fun t1030 => (if 0 ≤ x9_1 then (if x9_1 < (x6_2.length : Int) then (yan.l1 k2 l0 l1 (x6_2.set (x9_1 : Int).toNat (wrap64 ((rd x6_2 x9_1) + (ji30)))) t1030 (l1.length : Int) x9_1) else (none)) else (none)))) = some (r1, r2) := H
                                 have A31 := Aside0.mk A310
                                 clear A310
                                 replace H := Option.bind_eq_some_iff.mp H
                                 obtain ⟨t1027, A320, H⟩ := H
                                 replace H : ((ybb.f k2 x7_2 t1027).bind fun t1030 => (if 0 ≤ x9_1 then (if x9_1 < (x6_2.length : Int) then (yan.l1 k2 l0 l1 (x6_2.set (x9_1 : Int).toNat (wrap64 ((rd x6_2 x9_1) + (ji30)))) t1030 (l1.length : Int) x9_1) else (none)) else (none))) = some (r1, r2) := H
                                 have A32 := Aside0.mk A320
                                 clear A320
                                 replace H := Option.bind_eq_some_iff.mp H
                                 obtain ⟨t1030, A330, H⟩ := H
                                 replace H : (if 0 ≤ x9_1 then (if x9_1 < (x6_2.length : Int) then (yan.l1 k2 l0 l1 (x6_2.set (x9_1 : Int).toNat (wrap64 ((rd x6_2 x9_1) + (ji30)))) t1030 (l1.length : Int) x9_1) else (none)) else (none)) = some (r1, r2) := H
                                 have A33 := Aside0.mk A330
                                 clear A330
                                 by_cases c34 : 0 ≤ x9_1
                                 · rw [if_pos c34] at H
                                   have c34b0 : decide (0 ≤ x9_1) = true := decide_eq_true c34
                                   clear c34
                                   by_cases c35 : x9_1 < (x6_2.length : Int)
                                   · rw [if_pos c35] at H
                                     have c35b0 : decide (x9_1 < (x6_2.length : Int)) = true := decide_eq_true c35
                                     clear c35
                                     obtain ⟨y1034, hy1034⟩ : ∃ y_ : List Int, y_ = (x6_2.set (x9_1 : Int).toNat (wrap64 ((rd x6_2 x9_1) + (ji30)))) := ⟨_, rfl⟩
                                     replace H : (yan.l1 k2 l0 l1 y1034 t1030 (l1.length : Int) x9_1) = some (r1, r2) := by first | (rw [hy1034]; with_reducible exact H) | (have H2_ := (Option.bind_some _ _).symm.trans H; rw [hy1034]; with_reducible exact H2_) | (have H2_ := (Option.bind_some _ _).symm.trans H; with_reducible exact H2_) | with_reducible exact H | (rw [hy1034]; exact H) | exact H
                                     have Ny1034 := Aside0.mk hy1034
                                     clear hy1034
                                     have H' := Aside0.mk H
                                     clear H
                                     obtain ⟨Ao37, co37, eo37⟩ := Kd.ybc HO_7.out
                                     subst eo37
                                     go_wp2_with (first | ((with_reducible refine yar (f := 63) rfl ?_); refine yce (some 35) rfl rfl Try.func63 (by kernel_rfl) rfl #[.slice Ao37 x7_2.length co37, .slice A1 l1.length c1] rfl Z6_ ?_; (with_reducible refine (yas.calls k2 _ _ x7_2 _ _ l1 t1020 _ ?side1 ?side2 ?side3 ?side4 A20.out).mono ?_); (case side1 => repeat (first | exact (Kd.R_reads' HO_7.out).2.2 | (with_reducible refine Kd.yau ?_ _) | (with_reducible refine Kd.yaw ?_ _) | (with_reducible refine Kd.ybe ?_))); (case side2 => exact (Kd.R_reads' HO_7.out).2.1); (case side3 => repeat (first | exact (Kd.ybg HR1.out HB.out) | (with_reducible refine Kd.yau ?_ _) | (with_reducible refine Kd.yaw ?_ _) | (with_reducible refine Kd.ybe ?_))); (case side4 => exact HC1.out); rintro e w' ⟨rfl, ⟨nd, rfl⟩⟩; refine ⟨_, rfl, ?_⟩; (try ((first | generalize hq_ : World.drewN wr nq = wr | (rw [ydi wr]; generalize hq_ : World.drewN wr _ = wr)); have n0_ : Aside0 (Kd.R (Kd.int .i64) 3 wr w.heap.size (fun k_ => some k_ ≠ (.slice Ao37 x7_2.length co37 : Value).ownBlock) v1002 x6_2) := ⟨by rw [← hq_]; exact Z20_⟩; have n1_ : Aside0 (Kd.R (Kd.int .i64) 3 wr w.heap.size (fun k_ => some k_ ≠ (v1002 : Value).ownBlock) (.slice Ao37 x7_2.length co37) x7_2) := ⟨by rw [← hq_]; exact Z21_⟩; have n2_ : Aside0 (Below w.heap.size w wr) := ⟨by rw [← hq_]; exact Z7_⟩; clear HO_6 HO_7 HB hq_; have HO_6 := n0_; have HO_7 := n1_; have HB := n2_; clear n0_ n1_ n2_)); have p1021 : 0 ≤ ((ji22) : Int) := of_decide_eq_true Z26_; have q1021 : (ji22) < (x7_2.length : Int) := of_decide_eq_true Z26_; obtain ⟨ad1021, e1021, hx1021_0⟩ := Kd.ybs (Kd.R_reads' HO_7.out).2.2 (ji22) p1021 q1021; cases e1021; replace p1021 := eq_true p1021; replace q1021 := eq_true q1021; have p1022 : 0 ≤ ((l1.length : Int) : Int) := of_decide_eq_true Z26_; have q1022 : (l1.length : Int) < (x7_2.length : Int) := of_decide_eq_true Z26_; obtain ⟨ad1022, e1022, hx1022_0⟩ := Kd.ybs (Kd.R_reads' HO_7.out).2.2 (l1.length : Int) p1022 q1022; obtain rfl : ad1021 = ad1022 := (by injection e1022); (try simp only [Go.IntWalk.toNatUp] at hx1022_0); replace p1022 := eq_true p1022; replace q1022 := eq_true q1022; have p1023 : 0 ≤ ((ji22) : Int) := of_decide_eq_true Z26_; have q1023 : (ji22) < (l1.length : Int) := of_decide_eq_true Z26_; obtain ⟨ad1023, e1023, hx1023_0⟩ := Kd.ybs HR1.out (ji22) p1023 q1023; cases e1023; replace hx1023_0 := (HB.out.cell (World.block_lt_of_cell? w _ hx1023_0)).trans hx1023_0; replace p1023 := eq_true p1023; replace q1023 := eq_true q1023) | ((with_reducible refine yar (f := 51) rfl ?_); refine yce (some 65) rfl rfl Try.func51 (by kernel_rfl) rfl #[.int .i64 ji30] rfl (by (try simp only [List.map_toArray, List.map_cons, List.map_nil]); first | done | (simp only [hji30]; rfl) | rfl | (simp only [List.length_drop, List.length_take]; rfl)) ?_; (with_reducible refine (yat.calls k2 ji30 t1024 _ A31.out).mono ?_); rintro e w38 ⟨v1025, rfl, ho0, hb⟩; refine ⟨_, rfl, ?_⟩; have n0_ := Aside0.mk (Kd.R_elder' Z20_ (Kd.ycf ho0) hb); have n1_ := Aside0.mk (Kd.R_elder' Z21_ (Kd.ycf ho0) hb); have n2_ := Aside0.mk (Kd.ybl (Kd.R_new' (Kd.R_new' ho0 (Kd.R_lt Z20_)) (Kd.R_lt Z21_)) (yaj Z7_)); have n3_ := Aside0.mk (yai Z7_ hb); clear HO_6; clear HO_7; clear HB; have HO_6 := n0_; have HO_7 := n1_; have HO1026 := n2_; have HB := n3_; clear n0_ n1_ n2_ n3_; (try clear hb); (try clear hb2); (try clear hk); (try clear hi); (try clear ho0); obtain ⟨Ao39, co39, eo39⟩ := Kd.ybc HO1026.out; subst eo39) | ((with_reducible refine yar (f := 62) rfl ?_); refine yce (some 66) rfl rfl Try.func62 (by kernel_rfl) rfl #[.slice (some ad1023) l1.length c1, .slice Ao39 t1024.length co39] rfl Z6_ ?_; (with_reducible refine (yaf.calls k2 _ _ l1 _ _ t1024 t1027 _ ?side1 ?side2 ?side3 ?side4 A32.out).mono ?_); (case side1 => repeat (first | exact (Kd.ybg HR1.out HB.out) | (with_reducible refine Kd.yau ?_ _) | (with_reducible refine Kd.yaw ?_ _) | (with_reducible refine Kd.ybe ?_))); (case side2 => exact HC1.out); (case side3 => repeat (first | exact (Kd.R_reads' HO1026.out).2.2 | (with_reducible refine Kd.yau ?_ _) | (with_reducible refine Kd.yaw ?_ _) | (with_reducible refine Kd.ybe ?_))); (case side4 => exact (Kd.R_reads' HO1026.out).2.1); rintro e w40 ⟨v1028, rfl, ho0, hb⟩; refine ⟨_, rfl, ?_⟩; have n0_ := Aside0.mk (Kd.R_elder' Z20_ (Kd.ycf ho0) hb); have n1_ := Aside0.mk (Kd.R_elder' Z21_ (Kd.ycf ho0) hb); have n2_ := Aside0.mk (Kd.R_elder' Z12_ (Kd.ycf ho0) hb); have n3_ := Aside0.mk (Kd.ybl (Kd.R_new' (Kd.R_new' (Kd.R_new' ho0 (Kd.R_lt Z20_)) (Kd.R_lt Z21_)) (Kd.R_lt Z12_)) (yaj Z7_)); have n4_ := Aside0.mk (yai Z7_ hb); clear HO_6; clear HO_7; clear HO1026; clear HB; have HO_6 := n0_; have HO_7 := n1_; have HO1026 := n2_; have HO1029 := n3_; have HB := n4_; clear n0_ n1_ n2_ n3_ n4_; (try clear hb); (try clear hb2); (try clear hk); (try clear hi); (try clear ho0); obtain ⟨Ao41, co41, eo41⟩ := Kd.ybc HO1029.out; subst eo41) | ((with_reducible refine yar (f := 98) rfl ?_); refine yce (some 67) rfl rfl Try.func98 (by kernel_rfl) rfl #[.slice (some ad1021) x7_2.length co37, .slice Ao41 t1027.length co41] rfl Z6_ ?_; (with_reducible refine (ybb.calls k2 _ _ x7_2 _ _ t1027 t1030 _ ?side1 ?side2 ?side3 ?side4 A33.out).mono ?_); (case side1 => repeat (first | exact (Kd.R_reads' HO_7.out).2.2 | (with_reducible refine Kd.yau ?_ _) | (with_reducible refine Kd.yaw ?_ _) | (with_reducible refine Kd.ybe ?_))); (case side2 => exact (Kd.R_reads' HO_7.out).2.1); (case side3 => repeat (first | exact (Kd.R_reads' HO1029.out).2.2 | (with_reducible refine Kd.yau ?_ _) | (with_reducible refine Kd.yaw ?_ _) | (with_reducible refine Kd.ybe ?_))); (case side4 => exact (Kd.R_reads' HO1029.out).2.1); rintro e w42 ⟨v1031, rfl, ho0, hb⟩; refine ⟨_, rfl, ?_⟩; have n0_ := Aside0.mk (Kd.R_elder' Z20_ (Kd.ycf ho0) hb); have n1_ := Aside0.mk (Kd.R_elder' Z21_ (Kd.ycf ho0) hb); have n2_ := Aside0.mk (Kd.R_elder' Z12_ (Kd.ycf ho0) hb); have n3_ := Aside0.mk (Kd.R_elder' (by (with_reducible repeat (first | apply Kd.yba | apply Kd.yaz | apply Kd.ybi)); exact HO1029.out) (Kd.ycf ho0) hb); have n4_ := Aside0.mk (Kd.ybl (Kd.R_new' (Kd.R_new' (Kd.R_new' (Kd.R_new' ho0 (Kd.R_lt Z20_)) (Kd.R_lt Z21_)) (Kd.R_lt Z12_)) (Kd.R_lt (by (with_reducible repeat (first | apply Kd.yba | apply Kd.yaz | apply Kd.ybi)); exact HO1029.out))) (yaj Z7_)); have n5_ := Aside0.mk (yai Z7_ hb); clear HO_6; clear HO_7; clear HO1026; clear HO1029; clear HB; have HO_6 := n0_; have HO_7 := n1_; have HO1026 := n2_; have HO1029 := n3_; have HO1032 := n4_; have HB := n5_; clear n0_ n1_ n2_ n3_ n4_ n5_; (try clear hb); (try clear hb2); (try clear hk); (try clear hi); (try clear ho0); obtain ⟨Ao43, co43, eo43⟩ := Kd.ybc HO_6.out; subst eo43; have p1033 : 0 ≤ (x9_1 : Int) := of_decide_eq_true Z26_; have q1033 : x9_1 < (x6_2.length : Int) := of_decide_eq_true Z26_; obtain ⟨ad1033, e1033, hx1033_0⟩ := Kd.ybs (Kd.R_reads' HO_6.out).2.2 x9_1 p1033 q1033; cases e1033; replace p1033 := eq_true p1033; replace q1033 := eq_true q1033; have p36 : 0 ≤ (x9_1 : Int) := of_decide_eq_true Z26_; have q36 : (x9_1 : Int) < ((x6_2.length : Int) : Int) := of_decide_eq_true Z26_; obtain ⟨go36, co36, eo36, gb36, gl36, cl36, HG36⟩ := Kd.yey HO_6.out (by omega); (first | cases eo36 | (injection eo36 with ea_ en_ ec_; (first | subst ea_ | (injection ea_ with ea_; subst ea_)); subst ec_; clear en_)); have GB36 := Aside0.mk gb36; have GG36 := Aside0.mk HG36; clear gb36 gl36 HG36; (first | simp only [add_plain] at hx1033_0 | skip); obtain ⟨hx36_0, hf36_0⟩ := Kd.ydb 0 HO_6.out (x9_1 : Int) p36 q36; replace p36 := eq_true p36; replace q36 := eq_true q36; have n_ := Aside0.mk (Kd.ycn (ok' := (fun k_ => some k_ ≠ (.slice (some ad1021) x7_2.length co37 : Value).ownBlock ∧ some k_ ≠ (.slice Ao39 t1024.length co39 : Value).ownBlock ∧ some k_ ≠ (.slice Ao41 t1027.length co41 : Value).ownBlock ∧ some k_ ≠ (v1031 : Value).ownBlock)) HO_6.out (fun k_ hk => ⟨hk.1.1.1, ⟨hk.1.1.2, ⟨hk.1.2, hk.2⟩⟩⟩)); clear HO_6; have HO_6 := n_; clear n_; obtain ⟨hy44_, hz44_⟩ := Kd.ydb 0 HO_6.out (x9_1 : Int) (of_decide_eq_true Z26_) (of_decide_eq_true Z26_); have HP44 := Kd.yej HO_6.out (x9_1 : Int) (wrap64 ((rd x6_2 x9_1) + (ji30)))) | ((with_reducible refine ycm (t := 3) (p := 76) rfl ?_); refine ycw (t := 3) (p := 76) (v := ?vo_w45) (w1 := (w42.setCell ⟨go36, (x9_1 : Int).toNat, none⟩ (.int .i64 (wrap64 ((rd x6_2 x9_1) + (ji30)))))) ?hg ?ho ?hn ?hr ?_; (case ho => rfl); (case hg => rfl); (case hn => rfl); (case hr => first | (go_simp; done) | (go_simp; rfl)); intro w45 hw; have hg : w42.grownBy w45 (some go36) := (by rw [hw]; exact HP44.2); have hp_ : Kd.R (Kd.int .i64) 3 w45 w.heap.size (fun k_ => some k_ ≠ (.slice (some ad1021) x7_2.length co37 : Value).ownBlock ∧ some k_ ≠ (.slice Ao39 t1024.length co39 : Value).ownBlock ∧ some k_ ≠ (.slice Ao41 t1027.length co41 : Value).ownBlock ∧ some k_ ≠ (v1031 : Value).ownBlock) (.slice (some ⟨go36, 0, none⟩) x6_2.length co43) y1034 := (by rw [hw, Ny1034.out]; exact HP44.1); clear HP44; have n0_ := Aside0.mk (hp_); have n1_ := Aside0.mk (Kd.yga (v := (.slice (some ⟨go36, 0, none⟩) x6_2.length co43)) (v1 := (.slice (some ⟨go36, 0, none⟩) x6_2.length co43)) (ok := (fun k_ => some k_ ≠ (.slice Ao39 t1024.length co39 : Value).ownBlock ∧ some k_ ≠ (.slice Ao41 t1027.length co41 : Value).ownBlock ∧ some k_ ≠ (v1031 : Value).ownBlock)) (by (with_reducible repeat (first | apply Kd.yba | apply Kd.yaz | apply Kd.ybi)); exact Kd.ycn HO_7.out (fun _ hk => ⟨⟨hk.1.1.2, ⟨hk.1.2, hk.2⟩⟩, hk.1.1.1⟩)) hg (.inl rfl)); have n2_ := Aside0.mk (Kd.yga (v := (.slice (some ⟨go36, 0, none⟩) x6_2.length co43)) (v1 := (.slice (some ⟨go36, 0, none⟩) x6_2.length co43)) (ok := (fun k_ => some k_ ≠ (.slice (some ad1021) x7_2.length co37 : Value).ownBlock ∧ some k_ ≠ (.slice Ao41 t1027.length co41 : Value).ownBlock ∧ some k_ ≠ (v1031 : Value).ownBlock)) (by (with_reducible repeat (first | apply Kd.yba | apply Kd.yaz | apply Kd.ybi)); exact Kd.ycn HO1026.out (fun _ hk => ⟨⟨hk.1.1.2, ⟨hk.1.2, hk.2⟩⟩, hk.1.1.1.2⟩)) hg (.inl rfl)); have n3_ := Aside0.mk (Kd.yga (v := (.slice (some ⟨go36, 0, none⟩) x6_2.length co43)) (v1 := (.slice (some ⟨go36, 0, none⟩) x6_2.length co43)) (ok := (fun k_ => some k_ ≠ (.slice (some ad1021) x7_2.length co37 : Value).ownBlock ∧ some k_ ≠ (.slice Ao39 t1024.length co39 : Value).ownBlock ∧ some k_ ≠ (v1031 : Value).ownBlock)) (by (with_reducible repeat (first | apply Kd.yba | apply Kd.yaz | apply Kd.ybi)); exact Kd.ycn HO1029.out (fun _ hk => ⟨⟨hk.1.1.2, ⟨hk.1.2, hk.2⟩⟩, hk.1.1.1.2⟩)) hg (.inl rfl)); have n4_ := Aside0.mk (Kd.yga (v := (.slice (some ⟨go36, 0, none⟩) x6_2.length co43)) (v1 := (.slice (some ⟨go36, 0, none⟩) x6_2.length co43)) (ok := (fun k_ => some k_ ≠ (.slice (some ad1021) x7_2.length co37 : Value).ownBlock ∧ some k_ ≠ (.slice Ao39 t1024.length co39 : Value).ownBlock ∧ some k_ ≠ (.slice Ao41 t1027.length co41 : Value).ownBlock)) (by (with_reducible repeat (first | apply Kd.yba | apply Kd.yaz | apply Kd.ybi)); exact Kd.ycn HO1032.out (fun _ hk => ⟨⟨hk.1.1.2, ⟨hk.1.2, hk.2⟩⟩, hk.1.1.1.2⟩)) hg (.inl rfl)); have n5_ := Aside0.mk ((by rw [hw]; exact ybx (HB.out) GB36.out : Below w.heap.size w w45)); clear HO_6; clear HO_7; clear HO1026; clear HO1029; clear HO1032; clear HB; have HO_6 := n0_; have HO_7 := n1_; have HO1026 := n2_; have HO1029 := n3_; have HO1032 := n4_; have HB := n5_; clear n0_ n1_ n2_ n3_ n4_ n5_; clear hg hw hp_))
                                     go_roundg k2
                                     case measure => have := HK1.out; have := HK2.out; omega
                                     case rel => exact ⟨(y1034), (t1030), H', ⟨by have := HK1.out; have := HK2.out; omega⟩, ⟨by (with_reducible repeat (first | apply Kd.yba | apply Kd.yaz | apply Kd.ybi)); exact Kd.ycn HO_6.out (fun _ hk => hk.2.2.2)⟩, ⟨by (with_reducible repeat (first | apply Kd.yba | apply Kd.yaz | apply Kd.ybi)); exact Kd.ycn HO1032.out (fun _ hk => hk.2)⟩, ⟨by repeat (first | (with_reducible first | exact HB.out | apply yad | apply yab | apply yac) | exact HB.out)⟩⟩
                                   · rw [if_neg c35] at H
                                     exact absurd H (by simp)
                                 · rw [if_neg c34] at H
                                   exact absurd H (by simp)
                             · rw [if_neg c28] at H
                               exact absurd H (by simp)
                           · rw [if_neg c27] at H
                             exact absurd H (by simp)
                         · rw [if_neg c26] at H
                           exact absurd H (by simp)
                       · rw [if_neg c25] at H
                         have c25b0 : decide ((l1.length : Int) < (x7_2.length : Int)) = false := decide_eq_false c25
                         have c25b1 : decide (l1.length < x7_2.length) = false := decide_eq_false (fun h => c25 (Int.ofNat_lt.mpr h))
                         clear c25
                         by_cases c46 : (ji22) < (l1.length : Int)
                         · rw [if_pos c46] at H
                           have c46b0 : decide ((ji22) < (l1.length : Int)) = true := decide_eq_true c46
                           clear c46
                           by_cases c47 : (wrap64 ((rd l1 (ji22)) + 1)) = 0
                           · rw [if_pos c47] at H
                             exact absurd H (by simp)
                           · rw [if_neg c47] at H
                             have c47b0 : ((wrap64 ((rd l1 (ji22)) + 1)) == 0) = false := beq_eq_false_iff_ne.mpr c47
                             have c47b1 : ((wrap64 ((rd l1 (ji22)) + 1)) != 0) = true := bne_iff_ne.mpr c47
                             obtain ⟨ji48, hji48⟩ : ∃ j_ : Int, (mx (wrap64 (Int.tdiv (rd x7_2 (ji22)) (wrap64 ((rd l1 (ji22)) + 1)))) 1) = j_ := ⟨_, rfl⟩
                             replace H : ((yat.f k2 (ji48)).bind fun t1036 => ((yaf.f k2 l1 t1036).bind fun t1039 => ((ybb.f k2 x7_2 t1039).bind fun t1042 => (if 0 ≤ x9_1 then (if x9_1 < (x6_2.length : Int) then (yan.l1 k2 l0 l1 (x6_2.set (x9_1 : Int).toNat (wrap64 ((rd x6_2 x9_1) + (ji48)))) t1042 (l1.length : Int) x9_1) else (none)) else (none))))) = some (r1, r2) := by first | (rw [hji48] at H; exact H) | (simp only [hji48] at H ⊢; exact H)
                             (try rw [hji48] at A20)
                             have hji48_ : (if (wrap64 (Int.tdiv (rd x7_2 (ji22)) (wrap64 ((rd l1 (ji22)) + 1)))) < 1 then 1 else (wrap64 (Int.tdiv (rd x7_2 (ji22)) (wrap64 ((rd l1 (ji22)) + 1))))) = ji48 := hji48
                             replace H := Option.bind_eq_some_iff.mp H
                             obtain ⟨t1036, A490, H⟩ := H
                             replace H : ((yaf.f k2 l1 t1036).bind fun t1039 => ((ybb.f k2 x7_2 t1039).bind fun t1042 => (if 0 ≤ x9_1 then (if x9_1 < (x6_2.length : Int) then (yan.l1 k2 l0 l1 (x6_2.set (x9_1 : Int).toNat (wrap64 ((rd x6_2 x9_1) + (ji48)))) t1042 (l1.length : Int) x9_1) else (none)) else (none)))) = some (r1, r2) := H
                             have A49 := Aside0.mk A490
                             clear A490
                             replace H := Option.bind_eq_some_iff.mp H
                             obtain ⟨t1039, A500, H⟩ := H
                             replace H : ((ybb.f k2 x7_2 t1039).bind fun t1042 => (if 0 ≤ x9_1 then (if x9_1 < (x6_2.length : Int) then (yan.l1 k2 l0 l1 (x6_2.set (x9_1 : Int).toNat (wrap64 ((rd x6_2 x9_1) + (ji48)))) t1042 (l1.length : Int) x9_1) else (none)) else (none))) = some (r1, r2) := H
                             have A50 := Aside0.mk A500
                             clear A500
                             replace H := Option.bind_eq_some_iff.mp H
                             obtain ⟨t1042, A510, H⟩ := H
                             replace H : (if 0 ≤ x9_1 then (if x9_1 < (x6_2.length : Int) then (yan.l1 k2 l0 l1 (x6_2.set (x9_1 : Int).toNat (wrap64 ((rd x6_2 x9_1) + (ji48)))) t1042 (l1.length : Int) x9_1) else (none)) else (none)) = some (r1, r2) := H
                             have A51 := Aside0.mk A510
                             clear A510
                             by_cases c52 : 0 ≤ x9_1
                             · rw [if_pos c52] at H
                               have c52b0 : decide (0 ≤ x9_1) = true := decide_eq_true c52
                               clear c52
                               by_cases c53 : x9_1 < (x6_2.length : Int)
                               · rw [if_pos c53] at H
                                 have c53b0 : decide (x9_1 < (x6_2.length : Int)) = true := decide_eq_true c53
                                 clear c53
                                 obtain ⟨y1046, hy1046⟩ : ∃ y_ : List Int, y_ = (x6_2.set (x9_1 : Int).toNat (wrap64 ((rd x6_2 x9_1) + (ji48)))) := ⟨_, rfl⟩
                                 replace H : (yan.l1 k2 l0 l1 y1046 t1042 (l1.length : Int) x9_1) = some (r1, r2) := by first | (rw [hy1046]; with_reducible exact H) | (have H2_ := (Option.bind_some _ _).symm.trans H; rw [hy1046]; with_reducible exact H2_) | (have H2_ := (Option.bind_some _ _).symm.trans H; with_reducible exact H2_) | with_reducible exact H | (rw [hy1046]; exact H) | exact H
                                 have Ny1046 := Aside0.mk hy1046
                                 clear hy1046
                                 have H' := Aside0.mk H
                                 clear H
                                 obtain ⟨Ao55, co55, eo55⟩ := Kd.ybc HO_7.out
                                 subst eo55
                                 go_wp2_with (first | ((with_reducible refine yar (f := 63) rfl ?_); refine yce (some 35) rfl rfl Try.func63 (by kernel_rfl) rfl #[.slice Ao55 x7_2.length co55, .slice A1 l1.length c1] rfl Z6_ ?_; (with_reducible refine (yas.calls k2 _ _ x7_2 _ _ l1 t1020 _ ?side1 ?side2 ?side3 ?side4 A20.out).mono ?_); (case side1 => repeat (first | exact (Kd.R_reads' HO_7.out).2.2 | (with_reducible refine Kd.yau ?_ _) | (with_reducible refine Kd.yaw ?_ _) | (with_reducible refine Kd.ybe ?_))); (case side2 => exact (Kd.R_reads' HO_7.out).2.1); (case side3 => repeat (first | exact (Kd.ybg HR1.out HB.out) | (with_reducible refine Kd.yau ?_ _) | (with_reducible refine Kd.yaw ?_ _) | (with_reducible refine Kd.ybe ?_))); (case side4 => exact HC1.out); rintro e w' ⟨rfl, ⟨nd, rfl⟩⟩; refine ⟨_, rfl, ?_⟩; (try ((first | generalize hq_ : World.drewN wr nq = wr | (rw [ydi wr]; generalize hq_ : World.drewN wr _ = wr)); have n0_ : Aside0 (Kd.R (Kd.int .i64) 3 wr w.heap.size (fun k_ => some k_ ≠ (.slice Ao55 x7_2.length co55 : Value).ownBlock) v1002 x6_2) := ⟨by rw [← hq_]; exact Z20_⟩; have n1_ : Aside0 (Kd.R (Kd.int .i64) 3 wr w.heap.size (fun k_ => some k_ ≠ (v1002 : Value).ownBlock) (.slice Ao55 x7_2.length co55) x7_2) := ⟨by rw [← hq_]; exact Z21_⟩; have n2_ : Aside0 (Below w.heap.size w wr) := ⟨by rw [← hq_]; exact Z7_⟩; clear HO_6 HO_7 HB hq_; have HO_6 := n0_; have HO_7 := n1_; have HB := n2_; clear n0_ n1_ n2_)); have p1021 : 0 ≤ ((ji22) : Int) := of_decide_eq_true Z26_; have q1021 : (ji22) < (x7_2.length : Int) := of_decide_eq_true Z26_; obtain ⟨ad1021, e1021, hx1021_0⟩ := Kd.ybs (Kd.R_reads' HO_7.out).2.2 (ji22) p1021 q1021; cases e1021; replace p1021 := eq_true p1021; replace q1021 := eq_true q1021; have p1035 : 0 ≤ ((ji22) : Int) := of_decide_eq_true Z26_; have q1035 : (ji22) < (l1.length : Int) := of_decide_eq_true Z26_; obtain ⟨ad1035, e1035, hx1035_0⟩ := Kd.ybs HR1.out (ji22) p1035 q1035; cases e1035; replace hx1035_0 := (HB.out.cell (World.block_lt_of_cell? w _ hx1035_0)).trans hx1035_0; replace p1035 := eq_true p1035; replace q1035 := eq_true q1035) | ((with_reducible refine yar (f := 51) rfl ?_); refine yce (some 65) rfl rfl Try.func51 (by kernel_rfl) rfl #[.int .i64 ji48] rfl (by (try simp only [List.map_toArray, List.map_cons, List.map_nil]); first | done | (simp only [hji48]; rfl) | rfl | (simp only [List.length_drop, List.length_take]; rfl)) ?_; (with_reducible refine (yat.calls k2 ji48 t1036 _ A49.out).mono ?_); rintro e w56 ⟨v1037, rfl, ho0, hb⟩; refine ⟨_, rfl, ?_⟩; have n0_ := Aside0.mk (Kd.R_elder' Z20_ (Kd.ycf ho0) hb); have n1_ := Aside0.mk (Kd.R_elder' Z21_ (Kd.ycf ho0) hb); have n2_ := Aside0.mk (Kd.ybl (Kd.R_new' (Kd.R_new' ho0 (Kd.R_lt Z20_)) (Kd.R_lt Z21_)) (yaj Z7_)); have n3_ := Aside0.mk (yai Z7_ hb); clear HO_6; clear HO_7; clear HB; have HO_6 := n0_; have HO_7 := n1_; have HO1038 := n2_; have HB := n3_; clear n0_ n1_ n2_ n3_; (try clear hb); (try clear hb2); (try clear hk); (try clear hi); (try clear ho0); obtain ⟨Ao57, co57, eo57⟩ := Kd.ybc HO1038.out; subst eo57) | ((with_reducible refine yar (f := 62) rfl ?_); refine yce (some 66) rfl rfl Try.func62 (by kernel_rfl) rfl #[.slice (some ad1035) l1.length c1, .slice Ao57 t1036.length co57] rfl Z6_ ?_; (with_reducible refine (yaf.calls k2 _ _ l1 _ _ t1036 t1039 _ ?side1 ?side2 ?side3 ?side4 A50.out).mono ?_); (case side1 => repeat (first | exact (Kd.ybg HR1.out HB.out) | (with_reducible refine Kd.yau ?_ _) | (with_reducible refine Kd.yaw ?_ _) | (with_reducible refine Kd.ybe ?_))); (case side2 => exact HC1.out); (case side3 => repeat (first | exact (Kd.R_reads' HO1038.out).2.2 | (with_reducible refine Kd.yau ?_ _) | (with_reducible refine Kd.yaw ?_ _) | (with_reducible refine Kd.ybe ?_))); (case side4 => exact (Kd.R_reads' HO1038.out).2.1); rintro e w58 ⟨v1040, rfl, ho0, hb⟩; refine ⟨_, rfl, ?_⟩; have n0_ := Aside0.mk (Kd.R_elder' Z20_ (Kd.ycf ho0) hb); have n1_ := Aside0.mk (Kd.R_elder' Z21_ (Kd.ycf ho0) hb); have n2_ := Aside0.mk (Kd.R_elder' Z13_ (Kd.ycf ho0) hb); have n3_ := Aside0.mk (Kd.ybl (Kd.R_new' (Kd.R_new' (Kd.R_new' ho0 (Kd.R_lt Z20_)) (Kd.R_lt Z21_)) (Kd.R_lt Z13_)) (yaj Z7_)); have n4_ := Aside0.mk (yai Z7_ hb); clear HO_6; clear HO_7; clear HO1038; clear HB; have HO_6 := n0_; have HO_7 := n1_; have HO1038 := n2_; have HO1041 := n3_; have HB := n4_; clear n0_ n1_ n2_ n3_ n4_; (try clear hb); (try clear hb2); (try clear hk); (try clear hi); (try clear ho0); obtain ⟨Ao59, co59, eo59⟩ := Kd.ybc HO1041.out; subst eo59) | ((with_reducible refine yar (f := 98) rfl ?_); refine yce (some 67) rfl rfl Try.func98 (by kernel_rfl) rfl #[.slice (some ad1021) x7_2.length co55, .slice Ao59 t1039.length co59] rfl Z6_ ?_; (with_reducible refine (ybb.calls k2 _ _ x7_2 _ _ t1039 t1042 _ ?side1 ?side2 ?side3 ?side4 A51.out).mono ?_); (case side1 => repeat (first | exact (Kd.R_reads' HO_7.out).2.2 | (with_reducible refine Kd.yau ?_ _) | (with_reducible refine Kd.yaw ?_ _) | (with_reducible refine Kd.ybe ?_))); (case side2 => exact (Kd.R_reads' HO_7.out).2.1); (case side3 => repeat (first | exact (Kd.R_reads' HO1041.out).2.2 | (with_reducible refine Kd.yau ?_ _) | (with_reducible refine Kd.yaw ?_ _) | (with_reducible refine Kd.ybe ?_))); (case side4 => exact (Kd.R_reads' HO1041.out).2.1); rintro e w60 ⟨v1043, rfl, ho0, hb⟩; refine ⟨_, rfl, ?_⟩; have n0_ := Aside0.mk (Kd.R_elder' Z20_ (Kd.ycf ho0) hb); have n1_ := Aside0.mk (Kd.R_elder' Z21_ (Kd.ycf ho0) hb); have n2_ := Aside0.mk (Kd.R_elder' Z13_ (Kd.ycf ho0) hb); have n3_ := Aside0.mk (Kd.R_elder' (by (with_reducible repeat (first | apply Kd.yba | apply Kd.yaz | apply Kd.ybi)); exact HO1041.out) (Kd.ycf ho0) hb); have n4_ := Aside0.mk (Kd.ybl (Kd.R_new' (Kd.R_new' (Kd.R_new' (Kd.R_new' ho0 (Kd.R_lt Z20_)) (Kd.R_lt Z21_)) (Kd.R_lt Z13_)) (Kd.R_lt (by (with_reducible repeat (first | apply Kd.yba | apply Kd.yaz | apply Kd.ybi)); exact HO1041.out))) (yaj Z7_)); have n5_ := Aside0.mk (yai Z7_ hb); clear HO_6; clear HO_7; clear HO1038; clear HO1041; clear HB; have HO_6 := n0_; have HO_7 := n1_; have HO1038 := n2_; have HO1041 := n3_; have HO1044 := n4_; have HB := n5_; clear n0_ n1_ n2_ n3_ n4_ n5_; (try clear hb); (try clear hb2); (try clear hk); (try clear hi); (try clear ho0); obtain ⟨Ao61, co61, eo61⟩ := Kd.ybc HO_6.out; subst eo61; have p1045 : 0 ≤ (x9_1 : Int) := of_decide_eq_true Z26_; have q1045 : x9_1 < (x6_2.length : Int) := of_decide_eq_true Z26_; obtain ⟨ad1045, e1045, hx1045_0⟩ := Kd.ybs (Kd.R_reads' HO_6.out).2.2 x9_1 p1045 q1045; cases e1045; replace p1045 := eq_true p1045; replace q1045 := eq_true q1045; have p54 : 0 ≤ (x9_1 : Int) := of_decide_eq_true Z26_; have q54 : (x9_1 : Int) < ((x6_2.length : Int) : Int) := of_decide_eq_true Z26_; obtain ⟨go54, co54, eo54, gb54, gl54, cl54, HG54⟩ := Kd.yey HO_6.out (by omega); (first | cases eo54 | (injection eo54 with ea_ en_ ec_; (first | subst ea_ | (injection ea_ with ea_; subst ea_)); subst ec_; clear en_)); have GB54 := Aside0.mk gb54; have GG54 := Aside0.mk HG54; clear gb54 gl54 HG54; (first | simp only [add_plain] at hx1045_0 | skip); obtain ⟨hx54_0, hf54_0⟩ := Kd.ydb 0 HO_6.out (x9_1 : Int) p54 q54; replace p54 := eq_true p54; replace q54 := eq_true q54; have n_ := Aside0.mk (Kd.ycn (ok' := (fun k_ => some k_ ≠ (.slice (some ad1021) x7_2.length co55 : Value).ownBlock ∧ some k_ ≠ (.slice Ao57 t1036.length co57 : Value).ownBlock ∧ some k_ ≠ (.slice Ao59 t1039.length co59 : Value).ownBlock ∧ some k_ ≠ (v1043 : Value).ownBlock)) HO_6.out (fun k_ hk => ⟨hk.1.1.1, ⟨hk.1.1.2, ⟨hk.1.2, hk.2⟩⟩⟩)); clear HO_6; have HO_6 := n_; clear n_; obtain ⟨hy62_, hz62_⟩ := Kd.ydb 0 HO_6.out (x9_1 : Int) (of_decide_eq_true Z26_) (of_decide_eq_true Z26_); have HP62 := Kd.yej HO_6.out (x9_1 : Int) (wrap64 ((rd x6_2 x9_1) + (ji48)))) | ((with_reducible refine ycm (t := 3) (p := 76) rfl ?_); refine ycw (t := 3) (p := 76) (v := ?vo_w63) (w1 := (w60.setCell ⟨go54, (x9_1 : Int).toNat, none⟩ (.int .i64 (wrap64 ((rd x6_2 x9_1) + (ji48)))))) ?hg ?ho ?hn ?hr ?_; (case ho => rfl); (case hg => rfl); (case hn => rfl); (case hr => first | (go_simp; done) | (go_simp; rfl)); intro w63 hw; have hg : w60.grownBy w63 (some go54) := (by rw [hw]; exact HP62.2); have hp_ : Kd.R (Kd.int .i64) 3 w63 w.heap.size (fun k_ => some k_ ≠ (.slice (some ad1021) x7_2.length co55 : Value).ownBlock ∧ some k_ ≠ (.slice Ao57 t1036.length co57 : Value).ownBlock ∧ some k_ ≠ (.slice Ao59 t1039.length co59 : Value).ownBlock ∧ some k_ ≠ (v1043 : Value).ownBlock) (.slice (some ⟨go54, 0, none⟩) x6_2.length co61) y1046 := (by rw [hw, Ny1046.out]; exact HP62.1); clear HP62; have n0_ := Aside0.mk (hp_); have n1_ := Aside0.mk (Kd.yga (v := (.slice (some ⟨go54, 0, none⟩) x6_2.length co61)) (v1 := (.slice (some ⟨go54, 0, none⟩) x6_2.length co61)) (ok := (fun k_ => some k_ ≠ (.slice Ao57 t1036.length co57 : Value).ownBlock ∧ some k_ ≠ (.slice Ao59 t1039.length co59 : Value).ownBlock ∧ some k_ ≠ (v1043 : Value).ownBlock)) (by (with_reducible repeat (first | apply Kd.yba | apply Kd.yaz | apply Kd.ybi)); exact Kd.ycn HO_7.out (fun _ hk => ⟨⟨hk.1.1.2, ⟨hk.1.2, hk.2⟩⟩, hk.1.1.1⟩)) hg (.inl rfl)); have n2_ := Aside0.mk (Kd.yga (v := (.slice (some ⟨go54, 0, none⟩) x6_2.length co61)) (v1 := (.slice (some ⟨go54, 0, none⟩) x6_2.length co61)) (ok := (fun k_ => some k_ ≠ (.slice (some ad1021) x7_2.length co55 : Value).ownBlock ∧ some k_ ≠ (.slice Ao59 t1039.length co59 : Value).ownBlock ∧ some k_ ≠ (v1043 : Value).ownBlock)) (by (with_reducible repeat (first | apply Kd.yba | apply Kd.yaz | apply Kd.ybi)); exact Kd.ycn HO1038.out (fun _ hk => ⟨⟨hk.1.1.2, ⟨hk.1.2, hk.2⟩⟩, hk.1.1.1.2⟩)) hg (.inl rfl)); have n3_ := Aside0.mk (Kd.yga (v := (.slice (some ⟨go54, 0, none⟩) x6_2.length co61)) (v1 := (.slice (some ⟨go54, 0, none⟩) x6_2.length co61)) (ok := (fun k_ => some k_ ≠ (.slice (some ad1021) x7_2.length co55 : Value).ownBlock ∧ some k_ ≠ (.slice Ao57 t1036.length co57 : Value).ownBlock ∧ some k_ ≠ (v1043 : Value).ownBlock)) (by (with_reducible repeat (first | apply Kd.yba | apply Kd.yaz | apply Kd.ybi)); exact Kd.ycn HO1041.out (fun _ hk => ⟨⟨hk.1.1.2, ⟨hk.1.2, hk.2⟩⟩, hk.1.1.1.2⟩)) hg (.inl rfl)); have n4_ := Aside0.mk (Kd.yga (v := (.slice (some ⟨go54, 0, none⟩) x6_2.length co61)) (v1 := (.slice (some ⟨go54, 0, none⟩) x6_2.length co61)) (ok := (fun k_ => some k_ ≠ (.slice (some ad1021) x7_2.length co55 : Value).ownBlock ∧ some k_ ≠ (.slice Ao57 t1036.length co57 : Value).ownBlock ∧ some k_ ≠ (.slice Ao59 t1039.length co59 : Value).ownBlock)) (by (with_reducible repeat (first | apply Kd.yba | apply Kd.yaz | apply Kd.ybi)); exact Kd.ycn HO1044.out (fun _ hk => ⟨⟨hk.1.1.2, ⟨hk.1.2, hk.2⟩⟩, hk.1.1.1.2⟩)) hg (.inl rfl)); have n5_ := Aside0.mk ((by rw [hw]; exact ybx (HB.out) GB54.out : Below w.heap.size w w63)); clear HO_6; clear HO_7; clear HO1038; clear HO1041; clear HO1044; clear HB; have HO_6 := n0_; have HO_7 := n1_; have HO1038 := n2_; have HO1041 := n3_; have HO1044 := n4_; have HB := n5_; clear n0_ n1_ n2_ n3_ n4_ n5_; clear hg hw hp_))
                                 go_roundg k2
                                 case measure => have := HK1.out; have := HK2.out; omega
                                 case rel => exact ⟨(y1046), (t1042), H', ⟨by have := HK1.out; have := HK2.out; omega⟩, ⟨by (with_reducible repeat (first | apply Kd.yba | apply Kd.yaz | apply Kd.ybi)); exact Kd.ycn HO_6.out (fun _ hk => hk.2.2.2)⟩, ⟨by (with_reducible repeat (first | apply Kd.yba | apply Kd.yaz | apply Kd.ybi)); exact Kd.ycn HO1044.out (fun _ hk => hk.2)⟩, ⟨by repeat (first | (with_reducible first | exact HB.out | apply yad | apply yab | apply yac) | exact HB.out)⟩⟩
                               · rw [if_neg c53] at H
                                 exact absurd H (by simp)
                             · rw [if_neg c52] at H
                               exact absurd H (by simp)
                         · rw [if_neg c46] at H
                           exact absurd H (by simp)
                     · rw [if_neg c24] at H
                       exact absurd H (by simp)
                   · rw [if_neg c23] at H
                     exact absurd H (by simp)
                 · rw [if_neg c21] at H
                   have c21b0 : decide (0 ≤ t1020) = false := decide_eq_false c21
                   clear c21
                   have H' := Aside0.mk H
                   clear H
                   obtain ⟨Ao64, co64, eo64⟩ := Kd.ybc HO_7.out
                   subst eo64
                   go_wp2_with (first | ((with_reducible refine yar (f := 63) rfl ?_); refine yce (some 35) rfl rfl Try.func63 (by kernel_rfl) rfl #[.slice Ao64 x7_2.length co64, .slice A1 l1.length c1] rfl Z6_ ?_; (with_reducible refine (yas.calls k2 _ _ x7_2 _ _ l1 t1020 _ ?side1 ?side2 ?side3 ?side4 A20.out).mono ?_); (case side1 => repeat (first | exact (Kd.R_reads' HO_7.out).2.2 | (with_reducible refine Kd.yau ?_ _) | (with_reducible refine Kd.yaw ?_ _) | (with_reducible refine Kd.ybe ?_))); (case side2 => exact (Kd.R_reads' HO_7.out).2.1); (case side3 => repeat (first | exact (Kd.ybg HR1.out HB.out) | (with_reducible refine Kd.yau ?_ _) | (with_reducible refine Kd.yaw ?_ _) | (with_reducible refine Kd.ybe ?_))); (case side4 => exact HC1.out); rintro e w' ⟨rfl, ⟨nd, rfl⟩⟩; refine ⟨_, rfl, ?_⟩))
                   go_roundg k2
                   case measure => have := HK1.out; have := HK2.out; omega
                   case rel => exact ⟨(x6_2), (x7_2), (wrap64 (x9_1 - 1)), Z27_, H', ⟨by have := HK1.out; have := HK2.out; omega⟩, ⟨by (with_reducible repeat (first | apply Kd.yba | apply Kd.yaz | apply Kd.ybi)); exact HO_6.out⟩, ⟨by (with_reducible repeat (first | apply Kd.yba | apply Kd.yaz | apply Kd.ybi)); exact HO_7.out⟩, ⟨by repeat (first | (with_reducible first | exact HB.out | apply yad | apply yab | apply yac) | exact HB.out)⟩⟩
             · rw [if_neg c12] at H
               exact absurd H (by simp)
           · rw [if_neg c11] at H
             exact absurd H (by simp)
         · rw [if_neg c10] at H
           exact absurd H (by simp)
       · rw [if_neg c9] at H
         have c9b0 : decide (0 ≤ x9_1) = false := decide_eq_false c9
         clear c9
         replace H := Option.bind_eq_some_iff.mp H
         obtain ⟨t1007, A650, H⟩ := H
         replace H : (some (t1007, x7_1)) = some (r1, r2) := H
         have A65 := Aside0.mk A650
         clear A650
         simp only [Option.some.injEq, Prod.mk.injEq] at H
         obtain ⟨rfl, rfl⟩ := H
         obtain ⟨Ao66, co66, eo66⟩ := Kd.ybc HO_6.out
         subst eo66
         go_wp2_with (first | ((with_reducible refine yar (f := 43) rfl ?_); refine yce (some 78) rfl rfl Try.func43 (by kernel_rfl) rfl #[.slice Ao66 x6_1.length co66] rfl Z6_ ?_; (with_reducible refine (yam.calls k1 (fun k_ => some k_ = (.slice Ao66 x6_1.length co66 : Value).ownBlock) (.slice Ao66 x6_1.length co66) x6_1 t1007 w _ ?side1 ?side2 A65.out).mono ?_); (case side1 => repeat (first | (with_reducible first | exact HB.out | apply yad | apply yab | apply yac) | exact HB.out)); (case side2 => exact Kd.yfh rfl HO_6.out); rintro e w67 ⟨v1008, rfl, ho0, hb, hkp⟩; refine ⟨_, rfl, ?_⟩; have n0_ := Aside0.mk (Kd.ycn (ok' := fun k_ => some k_ ≠ (v1008 : Value).ownBlock) (Kd.R_keptB (HO_7.out) hkp (fun k_ hk_ hs_ => (hk_) hs_)) (fun k_ hk_ => fun e_ => Or.elim (ho0.1 k_ e_.symm) (fun hs_ => hk_.2.1 hs_) (fun hn_ => Nat.not_le.2 hk_.2.2 hn_))); have n1_ := Aside0.mk (Kd.ycn (ok' := fun k_ => some k_ ≠ (u7 : Value).ownBlock) ho0 (fun k_ hk_ => Or.elim hk_ (fun hs_ => fun e_ => (((HO_7.out).1 k_ e_.symm)) hs_) (fun hn_ => (Kd.fresh' (Kd.R_lt Z21_) k_ hn_)))); have n2_ := Aside0.mk (hb); clear HO_7; clear HB; clear HO_6; have HO_7 := n0_; have HO1009 := n1_; have HB := n2_; clear n0_ n1_ n2_; (try clear hb); (try clear hkp); (try clear ho0)))
         go_ret2
         exact ⟨_, _, by first | rfl | (simp [yap, yao] <;> rfl) | (simp [*, yap, yao] <;> rfl), by (with_reducible repeat (first | apply Kd.yba | apply Kd.yaz | apply Kd.ybi)); exact HO1009.out, by (with_reducible repeat (first | apply Kd.yba | apply Kd.yaz | apply Kd.ybi)); exact HO_7.out, by repeat (first | (with_reducible first | exact HB.out | apply yad | apply yab | apply yac) | exact HB.out)⟩
   · rw [if_neg c4] at H
     exact absurd H (by simp)
 · rw [if_neg c3] at H
   exact absurd H (by simp)
end Go.Proofs.Ytgnaaaliadiekaa.B
end
