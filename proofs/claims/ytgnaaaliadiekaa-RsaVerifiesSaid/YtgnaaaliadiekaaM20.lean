/- A part of the proof (merged by pack.py, a program of this session: what the row's proof names). -/
import Derived.Test.YtgnaaaliadiekaaM4
import Derived.Test.YtgnaaaliadiekaaM5
import Derived.Test.YtgnaaaliadiekaaM0
section
namespace Go.Proofs.Ytgnaaaliadiekaa.B
open Go.RowKit Go.Proofs.YtgnaaaliadiekaaW.PrintWords Go.Proofs.YtgnaaaliadiekaaW.PrintLast Go.Proofs.YtgnaaaliadiekaaW.PrintMore
attribute [local go_sem] ycj ych ycs ycr ybw ybv yci ycg   -- for this text's walks alone
attribute [local go_sem] yca ybn ybz ybm
set_option linter.unusedVariables false
set_option linter.unusedSimpArgs false
def ybb.l0 : Nat → List Int → List Int → List Int → Int → Int → Option (List Int)
 | 0, _, _, _, _, _ => none
 | k + 1, x0, x1, x5, x6, x7 => if x7 < (x0.length : Int) then (if 0 ≤ x7 then (if x7 < (x1.length : Int) then (if (wrap64 ((wrap64 ((rd x0 x7) - x6)) - (rd x1 x7))) < 0 then (if x5.length < 17592186044416 then (ybb.l0 k x0 x1 (x5 ++ [wrap64 ((wrap64 ((wrap64 ((rd x0 x7) - x6)) - (rd x1 x7))) + 65536)]) 1 (wrap64 (x7 + 1))) else (none)) else (if x5.length < 17592186044416 then (ybb.l0 k x0 x1 (x5 ++ [wrap64 ((wrap64 ((rd x0 x7) - x6)) - (rd x1 x7))]) 0 (wrap64 (x7 + 1))) else (none))) else (if (wrap64 ((rd x0 x7) - x6)) < 0 then (if x5.length < 17592186044416 then (ybb.l0 k x0 x1 (x5 ++ [wrap64 ((wrap64 ((rd x0 x7) - x6)) + 65536)]) 1 (wrap64 (x7 + 1))) else (none)) else (if x5.length < 17592186044416 then (ybb.l0 k x0 x1 (x5 ++ [wrap64 ((rd x0 x7) - x6)]) 0 (wrap64 (x7 + 1))) else (none)))) else (none)) else ((yam.f k x5).bind fun t1001 => (some t1001))
def ybb.f (k : Nat) (l0 : List Int) (l1 : List Int) : Option (List Int) := ybb.l0 k l0 l1 ([] : List Int) 0 0
set_option maxHeartbeats 8000000 in
set_option maxRecDepth 100000 in
theorem ybb.calls (k : Nat) (A0 : Option Addr) (c0 : Nat) (l0 : List Int) (A1 : Option Addr) (c1 : Nat) (l1 : List Int) (r : List Int) (w : World) (hr0 : Kd.C (Kd.int .i64) w A0 l0.length l0) (hc0 : l0.length ≤ c0) (hr1 : Kd.C (Kd.int .i64) w A1 l1.length l1) (hc1 : l1.length ≤ c1) (h : ybb.f k l0 l1 = some r) :
 Calls Try.prog 98 #[.slice A0 l0.length c0, .slice A1 l1.length c1] w fun e w' => ∃ v0_ : Value, e = .returned (v0_) ∧ Kd.R (Kd.int .i64) 3 w' w.heap.size (fun _ => True) v0_ r ∧ Below w.heap.size w w' := by
 have HR0 := Aside0.mk hr0
 have HC0 := Aside0.mk hc0
 clear hr0 hc0
 have HR1 := Aside0.mk hr1
 have HC1 := Aside0.mk hc1
 clear hr1 hc1
 have HB := Aside0.mk (Below.refl w.heap.size w)
 have H : (ybb.l0 k l0 l1 ([] : List Int) 0 0) = some r := h
 clear h
 have H' := Aside0.mk H
 clear H
 go_enter Try.func98, Try.ntmps98
 go_wp2
 go_loopg [5, 6, 7] k (fun kq v5 v6 v7 w' => ∃ (x5_1 : List Int) (x6_1 : Int) (x7_1 : Int), v6 = .int .i64 x6_1 ∧ v7 = .int .i64 x7_1 ∧ Aside0 (ybb.l0 kq l0 l1 x5_1 x6_1 x7_1 = some r) ∧ Aside0 (kq ≤ k) ∧ Aside0 (Kd.R (Kd.int .i64) 3 w' w.heap.size (fun _ => True) v5 x5_1) ∧ Aside0 (Below w.heap.size w w'))
 case atStart => exact ⟨(([] : List Int)), (0), (0), Z27_, Z27_, H', ⟨Nat.le_refl _⟩, ⟨by first | exact Kd.yfv _ _ _ _ _ | exact Kd.yid _ _ _ _ _ | exact Kd.yia _ _ _ _ _ | exact Kd.yic _ _ _ _ _ | exact Kd.yib _ _ _ _ _⟩, ⟨by repeat (first | (with_reducible first | exact HB.out | apply yad | apply yab | apply yac) | exact HB.out)⟩⟩
 case round =>
  clear H'
  try clear c1
  try clear p2
  obtain ⟨x5_1, x6_1, x7_1, rfl, rfl, HA, HK1, HO_5, HB⟩ := hrel
  cases gk with
  | zero => exact absurd HA.out (by simp [ybb.l0])
  | succ k1 =>
   have H := HA.out
   clear HA
   simp only [ybb.l0] at H
   by_cases c3 : x7_1 < (l0.length : Int)
   · rw [if_pos c3] at H
     have c3b0 : decide (x7_1 < (l0.length : Int)) = true := decide_eq_true c3
     clear c3
     by_cases c4 : 0 ≤ x7_1
     · rw [if_pos c4] at H
       have c4b0 : decide (0 ≤ x7_1) = true := decide_eq_true c4
       clear c4
       by_cases c5 : x7_1 < (l1.length : Int)
       · rw [if_pos c5] at H
         have c5b0 : decide (x7_1 < (l1.length : Int)) = true := decide_eq_true c5
         clear c5
         by_cases c6 : (wrap64 ((wrap64 ((rd l0 x7_1) - x6_1)) - (rd l1 x7_1))) < 0
         · rw [if_pos c6] at H
           have c6b0 : decide ((wrap64 ((wrap64 ((rd l0 x7_1) - x6_1)) - (rd l1 x7_1))) < 0) = true := decide_eq_true c6
           clear c6
           by_cases c7 : x5_1.length < 17592186044416
           · rw [if_pos c7] at H
             have LMc7 := Aside0.mk c7
             clear c7
             obtain ⟨y1006, hy1006⟩ : ∃ y_ : List Int, y_ = (x5_1 ++ [wrap64 ((wrap64 ((wrap64 ((rd l0 x7_1) - x6_1)) - (rd l1 x7_1))) + 65536)]) := ⟨_, rfl⟩
             replace H : (ybb.l0 k1 l0 l1 y1006 1 (wrap64 (x7_1 + 1))) = some r := by first | (rw [hy1006]; with_reducible exact H) | (have H2_ := (Option.bind_some _ _).symm.trans H; rw [hy1006]; with_reducible exact H2_) | (have H2_ := (Option.bind_some _ _).symm.trans H; with_reducible exact H2_) | with_reducible exact H | (rw [hy1006]; exact H) | exact H
             have Ny1006 := Aside0.mk hy1006
             clear hy1006
             have H' := Aside0.mk H
             clear H
             have p1004 : 0 ≤ (x7_1 : Int) := of_decide_eq_true Z26_
             have q1004 : x7_1 < (l0.length : Int) := of_decide_eq_true Z26_
             obtain ⟨ad1004, e1004, hx1004_0⟩ := Kd.ybs HR0.out x7_1 p1004 q1004
             cases e1004
             replace hx1004_0 := (HB.out.cell (World.block_lt_of_cell? w _ hx1004_0)).trans hx1004_0
             replace p1004 := eq_true p1004
             replace q1004 := eq_true q1004
             have p1005 : 0 ≤ (x7_1 : Int) := of_decide_eq_true Z26_
             have q1005 : x7_1 < (l1.length : Int) := of_decide_eq_true Z26_
             obtain ⟨ad1005, e1005, hx1005_0⟩ := Kd.ybs HR1.out x7_1 p1005 q1005
             cases e1005
             replace hx1005_0 := (HB.out.cell (World.block_lt_of_cell? w _ hx1005_0)).trans hx1005_0
             replace p1005 := eq_true p1005
             replace q1005 := eq_true q1005
             go_wp2_with (first | ((with_reducible refine ycl (b := .append) (xs := #[.tmp 35, .tmp 37]) rfl ?_); at_builtin; refine Kd.ydz (Kd.int .i64) (w0 := w) w.heap.size rfl (.tmp 35) (.tmp 37) 28 3 (.int .i64 0) 8 rfl Try.underlying28 info3 rfl (by decide) (by omega) u5 x5_1 (wrap64 ((wrap64 ((wrap64 ((rd l0 x7_1) - x6_1)) - (rd l1 x7_1))) + 65536)) [.int .i64 (wrap64 ((wrap64 ((wrap64 ((rd l0 x7_1) - x6_1)) - (rd l1 x7_1))) + 65536))] (fun _ => True) (fun _ => False) rfl rfl ?aP (fun _ hk => hk.elim) ?aF ?aO ?aB ?aS ?aL ?_; (case aP => exact rfl); (case aB => exact Z7_); (case aF => exact (fun _ _ => trivial)); (case aO => exact Z19_); (case aS => exact (yaj Z7_)); (case aL => have := LMc7.out; omega); intro v1007 w8 ho hb hg hat; rw [← Ny1006.out] at ho; have n0_ := Aside0.mk (hb); have n1_ := Aside0.mk (ho); clear HB; clear HO_5; have HB := n0_; have HO1008 := n1_; clear n0_ n1_; clear ho hb hg hat))
             go_roundg k1
             case measure => have := HK1.out; omega
             case rel => exact ⟨(y1006), (1), (wrap64 (x7_1 + 1)), Z27_, Z27_, H', ⟨by have := HK1.out; omega⟩, ⟨by (with_reducible repeat (first | apply Kd.yba | apply Kd.yaz | apply Kd.ybi)); exact HO1008.out⟩, ⟨by repeat (first | (with_reducible first | exact HB.out | apply yad | apply yab | apply yac) | exact HB.out)⟩⟩
           · rw [if_neg c7] at H
             exact absurd H (by simp)
         · rw [if_neg c6] at H
           have c6b0 : decide ((wrap64 ((wrap64 ((rd l0 x7_1) - x6_1)) - (rd l1 x7_1))) < 0) = false := decide_eq_false c6
           clear c6
           by_cases c9 : x5_1.length < 17592186044416
           · rw [if_pos c9] at H
             have LMc9 := Aside0.mk c9
             clear c9
             obtain ⟨y1009, hy1009⟩ : ∃ y_ : List Int, y_ = (x5_1 ++ [wrap64 ((wrap64 ((rd l0 x7_1) - x6_1)) - (rd l1 x7_1))]) := ⟨_, rfl⟩
             replace H : (ybb.l0 k1 l0 l1 y1009 0 (wrap64 (x7_1 + 1))) = some r := by first | (rw [hy1009]; with_reducible exact H) | (have H2_ := (Option.bind_some _ _).symm.trans H; rw [hy1009]; with_reducible exact H2_) | (have H2_ := (Option.bind_some _ _).symm.trans H; with_reducible exact H2_) | with_reducible exact H | (rw [hy1009]; exact H) | exact H
             have Ny1009 := Aside0.mk hy1009
             clear hy1009
             have H' := Aside0.mk H
             clear H
             have p1004 : 0 ≤ (x7_1 : Int) := of_decide_eq_true Z26_
             have q1004 : x7_1 < (l0.length : Int) := of_decide_eq_true Z26_
             obtain ⟨ad1004, e1004, hx1004_0⟩ := Kd.ybs HR0.out x7_1 p1004 q1004
             cases e1004
             replace hx1004_0 := (HB.out.cell (World.block_lt_of_cell? w _ hx1004_0)).trans hx1004_0
             replace p1004 := eq_true p1004
             replace q1004 := eq_true q1004
             have p1005 : 0 ≤ (x7_1 : Int) := of_decide_eq_true Z26_
             have q1005 : x7_1 < (l1.length : Int) := of_decide_eq_true Z26_
             obtain ⟨ad1005, e1005, hx1005_0⟩ := Kd.ybs HR1.out x7_1 p1005 q1005
             cases e1005
             replace hx1005_0 := (HB.out.cell (World.block_lt_of_cell? w _ hx1005_0)).trans hx1005_0
             replace p1005 := eq_true p1005
             replace q1005 := eq_true q1005
             go_wp2_with (first | ((with_reducible refine ycl (b := .append) (xs := #[.tmp 35, .tmp 37]) rfl ?_); at_builtin; refine Kd.ydz (Kd.int .i64) (w0 := w) w.heap.size rfl (.tmp 35) (.tmp 37) 28 3 (.int .i64 0) 8 rfl Try.underlying28 info3 rfl (by decide) (by omega) u5 x5_1 (wrap64 ((wrap64 ((rd l0 x7_1) - x6_1)) - (rd l1 x7_1))) [.int .i64 (wrap64 ((wrap64 ((rd l0 x7_1) - x6_1)) - (rd l1 x7_1)))] (fun _ => True) (fun _ => False) rfl rfl ?aP (fun _ hk => hk.elim) ?aF ?aO ?aB ?aS ?aL ?_; (case aP => exact rfl); (case aB => exact Z7_); (case aF => exact (fun _ _ => trivial)); (case aO => exact Z19_); (case aS => exact (yaj Z7_)); (case aL => have := LMc9.out; omega); intro v1010 w10 ho hb hg hat; rw [← Ny1009.out] at ho; have n0_ := Aside0.mk (hb); have n1_ := Aside0.mk (ho); clear HB; clear HO_5; have HB := n0_; have HO1011 := n1_; clear n0_ n1_; clear ho hb hg hat))
             go_roundg k1
             case measure => have := HK1.out; omega
             case rel => exact ⟨(y1009), (0), (wrap64 (x7_1 + 1)), Z27_, Z27_, H', ⟨by have := HK1.out; omega⟩, ⟨by (with_reducible repeat (first | apply Kd.yba | apply Kd.yaz | apply Kd.ybi)); exact HO1011.out⟩, ⟨by repeat (first | (with_reducible first | exact HB.out | apply yad | apply yab | apply yac) | exact HB.out)⟩⟩
           · rw [if_neg c9] at H
             exact absurd H (by simp)
       · rw [if_neg c5] at H
         have c5b0 : decide (x7_1 < (l1.length : Int)) = false := decide_eq_false c5
         clear c5
         by_cases c11 : (wrap64 ((rd l0 x7_1) - x6_1)) < 0
         · rw [if_pos c11] at H
           have c11b0 : decide ((wrap64 ((rd l0 x7_1) - x6_1)) < 0) = true := decide_eq_true c11
           clear c11
           by_cases c12 : x5_1.length < 17592186044416
           · rw [if_pos c12] at H
             have LMc12 := Aside0.mk c12
             clear c12
             obtain ⟨y1012, hy1012⟩ : ∃ y_ : List Int, y_ = (x5_1 ++ [wrap64 ((wrap64 ((rd l0 x7_1) - x6_1)) + 65536)]) := ⟨_, rfl⟩
             replace H : (ybb.l0 k1 l0 l1 y1012 1 (wrap64 (x7_1 + 1))) = some r := by first | (rw [hy1012]; with_reducible exact H) | (have H2_ := (Option.bind_some _ _).symm.trans H; rw [hy1012]; with_reducible exact H2_) | (have H2_ := (Option.bind_some _ _).symm.trans H; with_reducible exact H2_) | with_reducible exact H | (rw [hy1012]; exact H) | exact H
             have Ny1012 := Aside0.mk hy1012
             clear hy1012
             have H' := Aside0.mk H
             clear H
             have p1004 : 0 ≤ (x7_1 : Int) := of_decide_eq_true Z26_
             have q1004 : x7_1 < (l0.length : Int) := of_decide_eq_true Z26_
             obtain ⟨ad1004, e1004, hx1004_0⟩ := Kd.ybs HR0.out x7_1 p1004 q1004
             cases e1004
             replace hx1004_0 := (HB.out.cell (World.block_lt_of_cell? w _ hx1004_0)).trans hx1004_0
             replace p1004 := eq_true p1004
             replace q1004 := eq_true q1004
             go_wp2_with (first | ((with_reducible refine ycl (b := .append) (xs := #[.tmp 35, .tmp 37]) rfl ?_); at_builtin; refine Kd.ydz (Kd.int .i64) (w0 := w) w.heap.size rfl (.tmp 35) (.tmp 37) 28 3 (.int .i64 0) 8 rfl Try.underlying28 info3 rfl (by decide) (by omega) u5 x5_1 (wrap64 ((wrap64 ((rd l0 x7_1) - x6_1)) + 65536)) [.int .i64 (wrap64 ((wrap64 ((rd l0 x7_1) - x6_1)) + 65536))] (fun _ => True) (fun _ => False) rfl rfl ?aP (fun _ hk => hk.elim) ?aF ?aO ?aB ?aS ?aL ?_; (case aP => exact rfl); (case aB => exact Z7_); (case aF => exact (fun _ _ => trivial)); (case aO => exact Z19_); (case aS => exact (yaj Z7_)); (case aL => have := LMc12.out; omega); intro v1013 w13 ho hb hg hat; rw [← Ny1012.out] at ho; have n0_ := Aside0.mk (hb); have n1_ := Aside0.mk (ho); clear HB; clear HO_5; have HB := n0_; have HO1014 := n1_; clear n0_ n1_; clear ho hb hg hat))
             go_roundg k1
             case measure => have := HK1.out; omega
             case rel => exact ⟨(y1012), (1), (wrap64 (x7_1 + 1)), Z27_, Z27_, H', ⟨by have := HK1.out; omega⟩, ⟨by (with_reducible repeat (first | apply Kd.yba | apply Kd.yaz | apply Kd.ybi)); exact HO1014.out⟩, ⟨by repeat (first | (with_reducible first | exact HB.out | apply yad | apply yab | apply yac) | exact HB.out)⟩⟩
           · rw [if_neg c12] at H
             exact absurd H (by simp)
         · rw [if_neg c11] at H
           have c11b0 : decide ((wrap64 ((rd l0 x7_1) - x6_1)) < 0) = false := decide_eq_false c11
           clear c11
           by_cases c14 : x5_1.length < 17592186044416
           · rw [if_pos c14] at H
             have LMc14 := Aside0.mk c14
             clear c14
             obtain ⟨y1015, hy1015⟩ : ∃ y_ : List Int, y_ = (x5_1 ++ [wrap64 ((rd l0 x7_1) - x6_1)]) := ⟨_, rfl⟩
             replace H : (ybb.l0 k1 l0 l1 y1015 0 (wrap64 (x7_1 + 1))) = some r := by first | (rw [hy1015]; with_reducible exact H) | (have H2_ := (Option.bind_some _ _).symm.trans H; rw [hy1015]; with_reducible exact H2_) | (have H2_ := (Option.bind_some _ _).symm.trans H; with_reducible exact H2_) | with_reducible exact H | (rw [hy1015]; exact H) | exact H
             have Ny1015 := Aside0.mk hy1015
             clear hy1015
             have H' := Aside0.mk H
             clear H
             have p1004 : 0 ≤ (x7_1 : Int) := of_decide_eq_true Z26_
             have q1004 : x7_1 < (l0.length : Int) := of_decide_eq_true Z26_
             obtain ⟨ad1004, e1004, hx1004_0⟩ := Kd.ybs HR0.out x7_1 p1004 q1004
             cases e1004
             replace hx1004_0 := (HB.out.cell (World.block_lt_of_cell? w _ hx1004_0)).trans hx1004_0
             replace p1004 := eq_true p1004
             replace q1004 := eq_true q1004
             go_wp2_with (first | ((with_reducible refine ycl (b := .append) (xs := #[.tmp 35, .tmp 37]) rfl ?_); at_builtin; refine Kd.ydz (Kd.int .i64) (w0 := w) w.heap.size rfl (.tmp 35) (.tmp 37) 28 3 (.int .i64 0) 8 rfl Try.underlying28 info3 rfl (by decide) (by omega) u5 x5_1 (wrap64 ((rd l0 x7_1) - x6_1)) [.int .i64 (wrap64 ((rd l0 x7_1) - x6_1))] (fun _ => True) (fun _ => False) rfl rfl ?aP (fun _ hk => hk.elim) ?aF ?aO ?aB ?aS ?aL ?_; (case aP => exact rfl); (case aB => exact Z7_); (case aF => exact (fun _ _ => trivial)); (case aO => exact Z19_); (case aS => exact (yaj Z7_)); (case aL => have := LMc14.out; omega); intro v1016 w15 ho hb hg hat; rw [← Ny1015.out] at ho; have n0_ := Aside0.mk (hb); have n1_ := Aside0.mk (ho); clear HB; clear HO_5; have HB := n0_; have HO1017 := n1_; clear n0_ n1_; clear ho hb hg hat))
             go_roundg k1
             case measure => have := HK1.out; omega
             case rel => exact ⟨(y1015), (0), (wrap64 (x7_1 + 1)), Z27_, Z27_, H', ⟨by have := HK1.out; omega⟩, ⟨by (with_reducible repeat (first | apply Kd.yba | apply Kd.yaz | apply Kd.ybi)); exact HO1017.out⟩, ⟨by repeat (first | (with_reducible first | exact HB.out | apply yad | apply yab | apply yac) | exact HB.out)⟩⟩
           · rw [if_neg c14] at H
             exact absurd H (by simp)
     · rw [if_neg c4] at H
       exact absurd H (by simp)
   · rw [if_neg c3] at H
     have c3b0 : decide (x7_1 < (l0.length : Int)) = false := decide_eq_false c3
     clear c3
     replace H := Option.bind_eq_some_iff.mp H
     obtain ⟨t1001, A160, H⟩ := H
     replace H : (some t1001) = some r := H
     have A16 := Aside0.mk A160
     clear A160
     obtain rfl := Option.some.inj H
     obtain ⟨Ao17, co17, eo17⟩ := Kd.ybc HO_5.out
     subst eo17
     go_wp2_with (first | ((with_reducible refine yar (f := 43) rfl ?_); refine yce (some 40) rfl rfl Try.func43 (by kernel_rfl) rfl #[.slice Ao17 x5_1.length co17] rfl Z6_ ?_; (with_reducible refine (yam.calls k1 (fun k_ => some k_ = (.slice Ao17 x5_1.length co17 : Value).ownBlock) (.slice Ao17 x5_1.length co17) x5_1 t1001 w _ ?side1 ?side2 A16.out).mono ?_); (case side1 => repeat (first | (with_reducible first | exact HB.out | apply yad | apply yab | apply yac) | exact HB.out)); (case side2 => exact Kd.yfh rfl HO_5.out); rintro e w18 ⟨v1002, rfl, ho0, hb, hkp⟩; refine ⟨_, rfl, ?_⟩; have n0_ := Aside0.mk (Kd.ycn (ok' := fun k_ => True) ho0 (fun k_ hk_ => trivial)); have n1_ := Aside0.mk (hb); clear HB; clear HO_5; have HO1003 := n0_; have HB := n1_; clear n0_ n1_; (try clear hb); (try clear hkp); (try clear ho0)))
     go_ret
     exact ⟨_, by first | rfl | (simp [yap, yao] <;> rfl) | (simp [*, yap, yao] <;> rfl), by (with_reducible repeat (first | apply Kd.yba | apply Kd.yaz | apply Kd.ybi)); exact HO1003.out, by repeat (first | (with_reducible first | exact HB.out | apply yad | apply yab | apply yac) | exact HB.out)⟩
end Go.Proofs.Ytgnaaaliadiekaa.B
end
