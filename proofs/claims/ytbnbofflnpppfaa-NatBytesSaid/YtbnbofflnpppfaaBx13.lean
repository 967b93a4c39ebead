/- Written by xp.py, a program of this session, over the print of the kit: what it says is checked by its build. -/
import Derived.Test.YtbnbofflnpppfaaBx0
import Derived.Test.YtbnbofflnpppfaaBx6
import Derived.Test.YtbnbofflnpppfaaBx9
import Derived.Test.YtbnbofflnpppfaaBx11
import Derived.Test.YtbnbofflnpppfaaBx12
namespace Go.Proofs.Ytbnbofflnpppfaa.B
open Go.RowKit Go.Proofs.YtbnbofflnpppfaaW.PrintWords Go.Proofs.YtbnbofflnpppfaaW.PrintLast Go.Proofs.YtbnbofflnpppfaaW.PrintMore
attribute [local go_sem] max2_int min2_int max_two min_two max_three min_three max_four min_four   -- for this text's walks alone
attribute [local go_sem] run_Add64 run_Add64_0 run_Sub64 run_Sub64_0
set_option linter.unusedVariables false
set_option linter.unusedSimpArgs false

/-! ### latchkeyref01_Div: function 29 -/
mutual
def latchkeyref01_Div.l0 : Nat → List Int → List Int → List Int → List Int → Int → Int → Option (List Int × List Int)
  | 0, _, _, _, _, _, _ => none
  | k + 1, x0, x1, x6, x7, x8, x9 => if x9 ≥ 0 then (if 0 ≤ x9 then (if x9 < (x0.length : Int) then ((some (([rd x0 x9] : List Int) : List Int)).bind fun y367 => (if y367.length + x7.length < 17592186044416 then ((latchkeyref01_trim.f k (y367 ++ x7)).bind fun t373 => (latchkeyref01_Div.l1 k x0 x1 x6 t373 x8 x9)) else (none))) else (none)) else (none)) else ((latchkeyref01_trim.f k x6).bind fun t363 => (some (t363, x7)))
def latchkeyref01_Div.l1 : Nat → List Int → List Int → List Int → List Int → Int → Int → Option (List Int × List Int)
  | 0, _, _, _, _, _, _ => none
  | k + 1, x0, x1, x6, x7, x8, x9 => (latchkeyref01_Cmp.f k x7 x1).bind fun t376 => (if t376 ≥ 0 then (if 0 ≤ (wrap64 (x8 - 1)) then (if (wrap64 (x8 - 1)) < (x7.length : Int) then (if (x7.length : Int) > x8 then (if 0 ≤ x8 then (if x8 < (x7.length : Int) then (if (wrap64 (x8 - 1)) < (x1.length : Int) then (if (wrap64 ((rd x1 (wrap64 (x8 - 1))) + 1)) = 0 then (none) else ((latchkeyref01_Small.f k (mx (wrap64 (Int.tdiv (wrap64 ((rd x7 (wrap64 (x8 - 1))) + (wrap64 (65536 * (rd x7 x8))))) (wrap64 ((rd x1 (wrap64 (x8 - 1))) + 1)))) 1)).bind fun t380 => ((latchkeyref01_Mul.f k x1 t380).bind fun t383 => ((latchkeyref01_Sub.f k x7 t383).bind fun t386 => (if 0 ≤ x9 then (if x9 < (x6.length : Int) then (latchkeyref01_Div.l1 k x0 x1 (x6.set (x9 : Int).toNat (wrap64 ((rd x6 x9) + (mx (wrap64 (Int.tdiv (wrap64 ((rd x7 (wrap64 (x8 - 1))) + (wrap64 (65536 * (rd x7 x8))))) (wrap64 ((rd x1 (wrap64 (x8 - 1))) + 1)))) 1)))) t386 x8 x9) else (none)) else (none)))))) else (none)) else (none)) else (none)) else (if (wrap64 (x8 - 1)) < (x1.length : Int) then (if (wrap64 ((rd x1 (wrap64 (x8 - 1))) + 1)) = 0 then (none) else ((latchkeyref01_Small.f k (mx (wrap64 (Int.tdiv (rd x7 (wrap64 (x8 - 1))) (wrap64 ((rd x1 (wrap64 (x8 - 1))) + 1)))) 1)).bind fun t392 => ((latchkeyref01_Mul.f k x1 t392).bind fun t395 => ((latchkeyref01_Sub.f k x7 t395).bind fun t398 => (if 0 ≤ x9 then (if x9 < (x6.length : Int) then (latchkeyref01_Div.l1 k x0 x1 (x6.set (x9 : Int).toNat (wrap64 ((rd x6 x9) + (mx (wrap64 (Int.tdiv (rd x7 (wrap64 (x8 - 1))) (wrap64 ((rd x1 (wrap64 (x8 - 1))) + 1)))) 1)))) t398 x8 x9) else (none)) else (none)))))) else (none))) else (none)) else (none)) else (latchkeyref01_Div.l0 k x0 x1 x6 x7 x8 (wrap64 (x9 - 1))))
end
def latchkeyref01_Div.f (k : Nat) (l0 : List Int) (l1 : List Int) : Option (List Int × List Int) := if 0 ≤ (l0.length : Int) then (if ((l0.length : Int) : Int).toNat ≤ 35184372088832 then (latchkeyref01_Div.l0 k l0 l1 (List.replicate ((l0.length : Int) : Int).toNat 0) (([] : List Int)) (l1.length : Int) (wrap64 ((l0.length : Int) - 1))) else (none)) else (none)
theorem latchkeyref01_Div.mono_l : ∀ k, (∀ y0 y1 y2 y3 y4 y5, LeO (latchkeyref01_Div.l0 k y0 y1 y2 y3 y4 y5) (latchkeyref01_Div.l0 (k + 1) y0 y1 y2 y3 y4 y5)) ∧ (∀ y0 y1 y2 y3 y4 y5, LeO (latchkeyref01_Div.l1 k y0 y1 y2 y3 y4 y5) (latchkeyref01_Div.l1 (k + 1) y0 y1 y2 y3 y4 y5))
  | 0 => ⟨fun _ _ _ _ _ _ r h => by simp [latchkeyref01_Div.l0] at h, fun _ _ _ _ _ _ r h => by simp [latchkeyref01_Div.l1] at h⟩
  | k + 1 => by
    obtain ⟨ih0, ih1⟩ := latchkeyref01_Div.mono_l k
    refine ⟨?_, ?_⟩
    · intro y0 y1 y2 y3 y4 y5
      unfold latchkeyref01_Div.l0
      repeat' first
      | (with_reducible exact ih0 _ _ _ _ _ _)
      | (with_reducible exact ih1 _ _ _ _ _ _)
      | (with_reducible exact latchkeyref01_Cmp.mono _ _ _)
      | (with_reducible exact latchkeyref01_Mul.mono _ _ _)
      | (with_reducible exact latchkeyref01_Small.mono _ _)
      | (with_reducible exact latchkeyref01_Sub.mono _ _ _)
      | (with_reducible exact latchkeyref01_trim.mono _ _)
      | (with_reducible exact LeO.refl _)
      | (with_reducible exact LeO.none _)
      | (with_reducible refine LeO.ite ?_ ?_)
      | (with_reducible refine LeO.bind ?_ (fun _ => ?_))
      | exact ih0 _ _ _ _ _ _
      | exact ih1 _ _ _ _ _ _
      | exact latchkeyref01_Cmp.mono _ _ _
      | exact latchkeyref01_Mul.mono _ _ _
      | exact latchkeyref01_Small.mono _ _
      | exact latchkeyref01_Sub.mono _ _ _
      | exact latchkeyref01_trim.mono _ _
      | exact LeO.none _
      | refine LeO.ite ?_ ?_
      | refine LeO.bind ?_ (fun _ => ?_)
    · intro y0 y1 y2 y3 y4 y5
      unfold latchkeyref01_Div.l1
      repeat' first
      | (with_reducible exact ih0 _ _ _ _ _ _)
      | (with_reducible exact ih1 _ _ _ _ _ _)
      | (with_reducible exact latchkeyref01_Cmp.mono _ _ _)
      | (with_reducible exact latchkeyref01_Mul.mono _ _ _)
      | (with_reducible exact latchkeyref01_Small.mono _ _)
      | (with_reducible exact latchkeyref01_Sub.mono _ _ _)
      | (with_reducible exact latchkeyref01_trim.mono _ _)
      | (with_reducible exact LeO.refl _)
      | (with_reducible exact LeO.none _)
      | (with_reducible refine LeO.ite ?_ ?_)
      | (with_reducible refine LeO.bind ?_ (fun _ => ?_))
      | exact ih0 _ _ _ _ _ _
      | exact ih1 _ _ _ _ _ _
      | exact latchkeyref01_Cmp.mono _ _ _
      | exact latchkeyref01_Mul.mono _ _ _
      | exact latchkeyref01_Small.mono _ _
      | exact latchkeyref01_Sub.mono _ _ _
      | exact latchkeyref01_trim.mono _ _
      | exact LeO.none _
      | refine LeO.ite ?_ ?_
      | refine LeO.bind ?_ (fun _ => ?_)
theorem latchkeyref01_Div.mono : ∀ a0 a1 k, LeO (latchkeyref01_Div.f k a0 a1) (latchkeyref01_Div.f (k + 1) a0 a1) := by
  intro a0 a1 k
  obtain ⟨ih0, ih1⟩ := latchkeyref01_Div.mono_l k
  unfold latchkeyref01_Div.f
  repeat' first
      | (with_reducible exact ih0 _ _ _ _ _ _)
      | (with_reducible exact ih1 _ _ _ _ _ _)
      | (with_reducible exact latchkeyref01_Cmp.mono _ _ _)
      | (with_reducible exact latchkeyref01_Mul.mono _ _ _)
      | (with_reducible exact latchkeyref01_Small.mono _ _)
      | (with_reducible exact latchkeyref01_Sub.mono _ _ _)
      | (with_reducible exact latchkeyref01_trim.mono _ _)
      | (with_reducible exact LeO.refl _)
      | (with_reducible exact LeO.none _)
      | (with_reducible refine LeO.ite ?_ ?_)
      | (with_reducible refine LeO.bind ?_ (fun _ => ?_))
      | exact ih0 _ _ _ _ _ _
      | exact ih1 _ _ _ _ _ _
      | exact latchkeyref01_Cmp.mono _ _ _
      | exact latchkeyref01_Mul.mono _ _ _
      | exact latchkeyref01_Small.mono _ _
      | exact latchkeyref01_Sub.mono _ _ _
      | exact latchkeyref01_trim.mono _ _
      | exact LeO.none _
      | refine LeO.ite ?_ ?_
      | refine LeO.bind ?_ (fun _ => ?_)
set_option maxHeartbeats 8000000 in
set_option maxRecDepth 100000 in
theorem latchkeyref01_Div.calls (k : Nat) (A0 : Option Addr) (c0 : Nat) (l0 : List Int) (A1 : Option Addr) (c1 : Nat) (l1 : List Int) (r1 : List Int) (r2 : List Int) (w : World) (hr0 : Kd.C (Kd.int .i64) w A0 l0.length l0) (hc0 : l0.length ≤ c0) (hr1 : Kd.C (Kd.int .i64) w A1 l1.length l1) (hc1 : l1.length ≤ c1) (h : latchkeyref01_Div.f k l0 l1 = some (r1, r2)) :
    Calls Try.prog 29 #[.slice A0 l0.length c0, .slice A1 l1.length c1] w fun e w' => ∃ v0_ v1_ : Value, e = .returned (.tuple #[v0_, v1_]) ∧ Kd.R (Kd.int .i64) 3 w' w.heap.size (fun k_ => some k_ ≠ (v1_ : Value).ownBlock) v0_ r1 ∧ Kd.R (Kd.int .i64) 3 w' w.heap.size (fun k_ => some k_ ≠ (v0_ : Value).ownBlock) v1_ r2 ∧ Below w.heap.size w w' := by
  have HR0 := Aside0.mk hr0
  have HC0 := Aside0.mk hc0
  clear hr0 hc0
  have HR1 := Aside0.mk hr1
  have HC1 := Aside0.mk hc1
  clear hr1 hc1
  have HB := Aside0.mk (Below.refl w.heap.size w)
  have H : (if 0 ≤ (l0.length : Int) then (if ((l0.length : Int) : Int).toNat ≤ 35184372088832 then (latchkeyref01_Div.l0 k l0 l1 (List.replicate ((l0.length : Int) : Int).toNat 0) (([] : List Int)) (l1.length : Int) (wrap64 ((l0.length : Int) - 1))) else (none)) else (none)) = some (r1, r2) := h
  clear h
  by_cases c3 : 0 ≤ (l0.length : Int)
  · rw [if_pos c3] at H
    have c3b0 := eq_true c3
    have c3b1 : decide (0 ≤ (l0.length : Int)) = true := decide_eq_true c3
    clear c3
    by_cases c4 : ((l0.length : Int) : Int).toNat ≤ 35184372088832
    · rw [if_pos c4] at H
      have c4b0 := eq_true c4
      have c4b1 : decide (((l0.length : Int) : Int).toNat ≤ 35184372088832) = true := decide_eq_true c4
      clear c4
      obtain ⟨y357, hy357⟩ : ∃ y_ : List Int, y_ = (List.replicate ((l0.length : Int) : Int).toNat 0) := ⟨_, rfl⟩
      replace H : (latchkeyref01_Div.l0 k l0 l1 y357 (([] : List Int)) (l1.length : Int) (wrap64 ((l0.length : Int) - 1))) = some (r1, r2) := by first | (rw [hy357]; with_reducible exact H) | (have H2_ := (Option.bind_some _ _).symm.trans H; rw [hy357]; with_reducible exact H2_) | (have H2_ := (Option.bind_some _ _).symm.trans H; with_reducible exact H2_) | with_reducible exact H | (rw [hy357]; exact H) | exact H
      have Ny357 := Aside0.mk hy357
      clear hy357
      obtain ⟨y360, hy360⟩ : ∃ y_ : List Int, y_ = (([] : List Int)) := ⟨_, rfl⟩
      replace H : (latchkeyref01_Div.l0 k l0 l1 y357 y360 (l1.length : Int) (wrap64 ((l0.length : Int) - 1))) = some (r1, r2) := by first | (rw [hy360]; with_reducible exact H) | (have H2_ := (Option.bind_some _ _).symm.trans H; rw [hy360]; with_reducible exact H2_) | (have H2_ := (Option.bind_some _ _).symm.trans H; with_reducible exact H2_) | with_reducible exact H | (rw [hy360]; exact H) | exact H
      have Ny360 := Aside0.mk hy360
      clear hy360
      have H' := Aside0.mk H
      clear H
      go_enter Try.func29, Try.ntmps29
      go_wp2_with (first | ((with_reducible refine gate_dst (N := 14) rfl ?_); refine Kd.R_make (Kd.int .i64) _ 3 rfl (N := 14) rfl 28 _ _ rfl (l0.length : Int) rfl rfl Try.underlying28 (.int .i64 0) 8 info3 rfl (by decide) (by omega) 0 (ok := fun _ => True) (okp := fun _ => True) rfl (fun _ hk => hk) trivial (of_decide_eq_true (by first | (with_reducible assumption) | assumption)) (Nat.le_trans (Nat.mul_le_mul_right _ (of_decide_eq_true (by first | (with_reducible assumption) | assumption) : (l0.length : Int).toNat ≤ 35184372088832)) (by omega)) (Below.refl _ _) (Nat.le_refl _) ?_; intro v358 w5 ho6 hb hg_ hnew_; clear hg_ hnew_; (first | rw [← Ny357.out] at ho6 | (simp only [Int.reduceToNat] at ho6; rw [← Ny357.out] at ho6)); have n0_ := Aside0.mk (Kd.R_lower ho6 (below_size (by repeat (first | (with_reducible first | exact HB.out | apply below_alloc | apply pw_below_drewN | apply below_drew1) | exact HB.out)))); have n1_ := Aside0.mk (below_step (by repeat (first | (with_reducible first | exact HB.out | apply below_alloc | apply pw_below_drewN | apply below_drew1) | exact HB.out)) hb); clear HB; have HO359 := n0_; have HB := n1_; clear n0_ n1_; clear hb ho6) | ((with_reducible refine gate_dst (N := 15) rfl ?_); refine Kd.R_lit (Kd.int .i64) _ 3 ?hg (N := 15) ?hd (xs := ([] : List Int)) (inner := []) (ok := fun _ => True) (okp := fun _ => True) ?hr ?hp (fun _ hk => hk) trivial (Below.refl _ _) (Nat.le_refl _) (by simp) ?_; (case hd => rfl); (case hg => rfl); (case hr => first | (go_simp; done) | (go_simp; rfl)); (case hp => exact (Reps.none _ _)); intro v361 w7 ho8 hb hg_ hnew_; clear hg_ hnew_; (first | rw [← Ny360.out] at ho8 | (simp only [Int.reduceToNat] at ho8; rw [← Ny360.out] at ho8)); have n0_ := Aside0.mk (Kd.R_elder' (by (with_reducible repeat (first | apply Kd.R_alloc | apply Kd.R_drewN | apply Kd.R_drew)); exact HO359.out) (Kd.R_base ho8) hb); have n1_ := Aside0.mk (Kd.R_lower (Kd.R_new' ho8 (Kd.R_lt (by (with_reducible repeat (first | apply Kd.R_alloc | apply Kd.R_drewN | apply Kd.R_drew)); exact HO359.out))) (below_size (by repeat (first | (with_reducible first | exact HB.out | apply below_alloc | apply pw_below_drewN | apply below_drew1) | exact HB.out)))); have n2_ := Aside0.mk (below_step (by repeat (first | (with_reducible first | exact HB.out | apply below_alloc | apply pw_below_drewN | apply below_drew1) | exact HB.out)) hb); clear HO359; clear HB; have HO359 := n0_; have HO362 := n1_; have HB := n2_; clear n0_ n1_ n2_; clear hb ho8))
      go_loopg [7, 9] k (fun kq v7 v9 w' => ∃ (x6_1 : List Int) (x7_1 : List Int) (x9_1 : Int), v9 = .int .i64 x9_1 ∧ Aside0 (latchkeyref01_Div.l0 kq l0 l1 x6_1 x7_1 (l1.length : Int) x9_1 = some (r1, r2)) ∧ Aside0 (kq ≤ k) ∧ Aside0 (Kd.R (Kd.int .i64) 3 w' w.heap.size (fun k_ => some k_ ≠ (v7 : Value).ownBlock) v358 x6_1) ∧ Aside0 (Kd.R (Kd.int .i64) 3 w' w.heap.size (fun k_ => some k_ ≠ (v358 : Value).ownBlock) v7 x7_1) ∧ Aside0 (Below w.heap.size w w'))
      case atStart => exact ⟨(y357), (y360), (wrap64 ((l0.length : Int) - 1)), (by first | rfl | (simp; done) | (simp [*]; done)), H', ⟨Nat.le_refl _⟩, ⟨by (with_reducible repeat (first | apply Kd.R_alloc | apply Kd.R_drewN | apply Kd.R_drew)); exact Kd.R_mono HO359.out (fun _ hk => hk.2)⟩, ⟨by (with_reducible repeat (first | apply Kd.R_alloc | apply Kd.R_drewN | apply Kd.R_drew)); exact Kd.R_mono HO362.out (fun _ hk => hk.2)⟩, ⟨by repeat (first | (with_reducible first | exact HB.out | apply below_alloc | apply pw_below_drewN | apply below_drew1) | exact HB.out)⟩⟩
      case round =>
        clear H'
        try clear c1
        try clear c2
        try clear p2
        try clear c3
        try clear c3b0
        try clear c3b1
        try clear c4
        try clear c4b0
        try clear c4b1
        try clear p6
        obtain ⟨x6_1, x7_1, x9_1, rfl, HA, HK1, HO_6, HO_7, HB⟩ := hrel
        cases gk with
        | zero => exact absurd HA.out (by simp [latchkeyref01_Div.l0])
        | succ k1 =>
          have H := HA.out
          clear HA
          simp only [latchkeyref01_Div.l0] at H
          by_cases c9 : x9_1 ≥ 0
          · rw [if_pos c9] at H
            have c9b0 : decide (0 ≤ x9_1) = true := decide_eq_true c9
            clear c9
            by_cases c10 : 0 ≤ x9_1
            · rw [if_pos c10] at H
              have c10b0 : decide (0 ≤ x9_1) = true := decide_eq_true c10
              clear c10
              by_cases c11 : x9_1 < (l0.length : Int)
              · rw [if_pos c11] at H
                have c11b0 : decide (x9_1 < (l0.length : Int)) = true := decide_eq_true c11
                clear c11
                obtain ⟨y367, hy367⟩ : ∃ y_ : List Int, y_ = (([rd l0 x9_1] : List Int)) := ⟨_, rfl⟩
                replace H : (if y367.length + x7_1.length < 17592186044416 then ((latchkeyref01_trim.f k1 (y367 ++ x7_1)).bind fun t373 => (latchkeyref01_Div.l1 k1 l0 l1 x6_1 t373 (l1.length : Int) x9_1)) else (none)) = some (r1, r2) := by first | (rw [hy367]; with_reducible exact H) | (have H2_ := (Option.bind_some _ _).symm.trans H; rw [hy367]; with_reducible exact H2_) | (have H2_ := (Option.bind_some _ _).symm.trans H; with_reducible exact H2_) | with_reducible exact H | (rw [hy367]; exact H) | exact H
                have Ny367 := Aside0.mk hy367
                clear hy367
                by_cases c12 : y367.length + x7_1.length < 17592186044416
                · rw [if_pos c12] at H
                  have LMc12 := Aside0.mk c12
                  clear c12
                  obtain ⟨y370, hy370⟩ : ∃ y_ : List Int, y_ = (y367 ++ x7_1) := ⟨_, rfl⟩
                  replace H : ((latchkeyref01_trim.f k1 y370).bind fun t373 => (latchkeyref01_Div.l1 k1 l0 l1 x6_1 t373 (l1.length : Int) x9_1)) = some (r1, r2) := by first | (rw [hy370]; with_reducible exact H) | (have H2_ := (Option.bind_some _ _).symm.trans H; rw [hy370]; with_reducible exact H2_) | (have H2_ := (Option.bind_some _ _).symm.trans H; with_reducible exact H2_) | with_reducible exact H | (rw [hy370]; exact H) | exact H
                  have Ny370 := Aside0.mk hy370
                  clear hy370
                  replace H := Option.bind_eq_some_iff.mp H
                  obtain ⟨t373, A130, H⟩ := H
                  replace H : (latchkeyref01_Div.l1 k1 l0 l1 x6_1 t373 (l1.length : Int) x9_1) = some (r1, r2) := H
                  have A13 := Aside0.mk A130
                  clear A130
                  have H' := Aside0.mk H
                  clear H
                  have p366 : 0 ≤ (x9_1 : Int) := of_decide_eq_true (by first | (with_reducible assumption) | assumption)
                  have q366 : x9_1 < (l0.length : Int) := of_decide_eq_true (by first | (with_reducible assumption) | assumption)
                  obtain ⟨ad366, e366, hx366_0⟩ := Kd.at_int HR0.out x9_1 p366 q366
                  cases e366
                  replace hx366_0 := (HB.out.cell (World.block_lt_of_cell? w _ hx366_0)).trans hx366_0
                  replace p366 := eq_true p366
                  replace q366 := eq_true q366
                  go_wp2_with (first | ((with_reducible refine gate_dst (N := 29) rfl ?_); refine Kd.R_lit (Kd.int .i64) _ 3 ?hg (N := 29) ?hd (xs := ([rd l0 x9_1] : List Int)) (inner := [.int .i64 (rd l0 x9_1)]) (ok := fun _ => True) (okp := fun _ => True) ?hr ?hp (fun _ hk => hk) trivial (Below.refl _ _) (Nat.le_refl _) (by simp) ?_; (case hd => rfl); (case hg => rfl); (case hr => first | (go_simp; done) | (go_simp; rfl)); (case hp => exact (Reps.one (show Kd.M (Kd.int .i64) _ _ _ (rd l0 x9_1) [.int .i64 (rd l0 x9_1)] from rfl) (Reps.none _ _))); intro v368 w14 ho15 hb hg_ hnew_; clear hg_ hnew_; (first | rw [← Ny367.out] at ho15 | (simp only [Int.reduceToNat] at ho15; rw [← Ny367.out] at ho15)); have n0_ := Aside0.mk (Kd.R_elder' (by (with_reducible repeat (first | apply Kd.R_alloc | apply Kd.R_drewN | apply Kd.R_drew)); exact HO_6.out) (Kd.R_base ho15) hb); have n1_ := Aside0.mk (Kd.R_elder' (by (with_reducible repeat (first | apply Kd.R_alloc | apply Kd.R_drewN | apply Kd.R_drew)); exact HO_7.out) (Kd.R_base ho15) hb); have n2_ := Aside0.mk (Kd.R_lower (Kd.R_new' (Kd.R_new' ho15 (Kd.R_lt (by (with_reducible repeat (first | apply Kd.R_alloc | apply Kd.R_drewN | apply Kd.R_drew)); exact HO_6.out))) (Kd.R_lt (by (with_reducible repeat (first | apply Kd.R_alloc | apply Kd.R_drewN | apply Kd.R_drew)); exact HO_7.out))) (below_size (by repeat (first | (with_reducible first | exact HB.out | apply below_alloc | apply pw_below_drewN | apply below_drew1) | exact HB.out)))); have n3_ := Aside0.mk (below_step (by repeat (first | (with_reducible first | exact HB.out | apply below_alloc | apply pw_below_drewN | apply below_drew1) | exact HB.out)) hb); clear HO_6; clear HO_7; clear HB; have HO_6 := n0_; have HO_7 := n1_; have HO369 := n2_; have HB := n3_; clear n0_ n1_ n2_ n3_; clear hb ho15; obtain ⟨Ao17, co17, eo17⟩ := Kd.R_slice HO_7.out; subst eo17) | ((with_reducible refine gate_builtin (b := .append) (xs := #[.tmp 29, .tmp 30]) rfl ?_); at_builtin; refine Kd.R_append_rows (Kd.int .i64) (w0 := w) w.heap.size rfl (.tmp 29) (.tmp 30) 28 3 (.int .i64 0) 8 rfl Try.underlying28 info3 rfl (by decide) (by omega) v368 y367 x7_1 _ _ _ (fun k_ => some k_ ≠ (v358 : Value).ownBlock ∧ some k_ ≠ (.slice Ao17 x7_1.length co17 : Value).ownBlock) (fun _ => False) rfl rfl ?aO ?aR (fun _ _ h => h) (fun _ h => h.elim) ?aF ?aB ?aS ?aL ?_; (case aR => repeat (first | exact (Kd.R_reads' HO_7.out).2.2 | (with_reducible refine Kd.C_alloc ?_ _) | (with_reducible refine Kd.C_drewN ?_ _) | (with_reducible refine Kd.C_drew ?_))); (case aB => exact (by repeat (first | (with_reducible first | exact HB.out | apply below_alloc | apply pw_below_drewN | apply below_drew1) | exact HB.out))); (case aF => exact (fun k_ hk => ⟨Kd.fresh' (Kd.R_lt (by (with_reducible repeat (first | apply Kd.R_alloc | apply Kd.R_drewN | apply Kd.R_drew)); exact HO_6.out)) k_ hk, Kd.fresh' (Kd.R_lt (by (with_reducible repeat (first | apply Kd.R_alloc | apply Kd.R_drewN | apply Kd.R_drew)); exact HO_7.out)) k_ hk⟩)); (case aO => exact (by (with_reducible repeat (first | apply Kd.R_alloc | apply Kd.R_drewN | apply Kd.R_drew)); exact Kd.R_mono HO369.out (fun _ hk => ⟨hk.1.2, hk.2⟩))); (case aS => exact (below_size (by repeat (first | (with_reducible first | exact HB.out | apply below_alloc | apply pw_below_drewN | apply below_drew1) | exact HB.out)))); (case aL => have := LMc12.out; omega); intro v371 w16 ho hb hg hat; rw [← Ny370.out] at ho; have n0_ := Aside0.mk (Kd.R_after (ok := (fun k_ => some k_ ≠ (.slice Ao17 x7_1.length co17 : Value).ownBlock)) (by (with_reducible repeat (first | apply Kd.R_alloc | apply Kd.R_drewN | apply Kd.R_drew)); exact HO_6.out) hg hat); have n1_ := Aside0.mk (Kd.R_after (ok := (fun k_ => some k_ ≠ (v358 : Value).ownBlock)) (by (with_reducible repeat (first | apply Kd.R_alloc | apply Kd.R_drewN | apply Kd.R_drew)); exact HO_7.out) hg hat); have n2_ := Aside0.mk (hb); have n3_ := Aside0.mk (ho); clear HO_6; clear HO_7; clear HB; clear HO369; have HO_6 := n0_; have HO_7 := n1_; have HB := n2_; have HO372 := n3_; clear n0_ n1_ n2_ n3_; clear ho hb hg hat; obtain ⟨Ao18, co18, eo18⟩ := Kd.R_slice HO372.out; subst eo18) | ((with_reducible refine gate_callee (f := 45) rfl ?_); refine goesL_ (some 32) rfl rfl Try.func45 (by kernel_rfl) rfl #[.slice Ao18 y370.length co18] rfl (by (try simp only [List.map_toArray, List.map_cons, List.map_nil]); first | done | rfl | (simp only [List.length_drop, List.length_take]; rfl)) ?_; (with_reducible refine (latchkeyref01_trim.calls k1 (fun k_ => some k_ = (.slice Ao18 y370.length co18 : Value).ownBlock) (.slice Ao18 y370.length co18) y370 t373 w _ ?side1 ?side2 A13.out).mono ?_); (case side1 => repeat (first | (with_reducible first | exact HB.out | apply below_alloc | apply pw_below_drewN | apply below_drew1) | exact HB.out)); (case side2 => exact Kd.R_tight rfl HO372.out); rintro e w19 ⟨v374, rfl, ho0, hb, hkp⟩; refine ⟨_, rfl, ?_⟩; have n0_ := Aside0.mk (Kd.R_mono (ok' := fun k_ => some k_ ≠ (.slice Ao17 x7_1.length co17 : Value).ownBlock ∧ some k_ ≠ (v374 : Value).ownBlock) (Kd.R_keptB (HO_6.out) hkp (fun k_ hk_ hs_ => (hk_.2) hs_)) (fun k_ hk_ => ⟨hk_.1.1, fun e_ => Or.elim (ho0.1 k_ e_.symm) (fun hs_ => hk_.2.1 hs_) (fun hn_ => Nat.not_le.2 hk_.2.2 hn_)⟩)); have n1_ := Aside0.mk (Kd.R_mono (ok' := fun k_ => some k_ ≠ (v358 : Value).ownBlock ∧ some k_ ≠ (v374 : Value).ownBlock) (Kd.R_keptB (HO_7.out) hkp (fun k_ hk_ hs_ => (hk_.2) hs_)) (fun k_ hk_ => ⟨hk_.1.1, fun e_ => Or.elim (ho0.1 k_ e_.symm) (fun hs_ => hk_.2.1 hs_) (fun hn_ => Nat.not_le.2 hk_.2.2 hn_)⟩)); have n2_ := Aside0.mk (Kd.R_mono (ok' := fun k_ => some k_ ≠ (v358 : Value).ownBlock ∧ some k_ ≠ (.slice Ao17 x7_1.length co17 : Value).ownBlock) ho0 (fun k_ hk_ => ⟨Or.elim hk_ (fun hs_ => fun e_ => (((HO_6.out).1 k_ e_.symm).2) hs_) (fun hn_ => (Kd.fresh' (Kd.R_lt (by (with_reducible repeat (first | apply Kd.R_alloc | apply Kd.R_drewN | apply Kd.R_drew)); exact HO_6.out)) k_ hn_)), Or.elim hk_ (fun hs_ => fun e_ => (((HO_7.out).1 k_ e_.symm).2) hs_) (fun hn_ => (Kd.fresh' (Kd.R_lt (by (with_reducible repeat (first | apply Kd.R_alloc | apply Kd.R_drewN | apply Kd.R_drew)); exact HO_7.out)) k_ hn_))⟩)); have n3_ := Aside0.mk (hb); clear HO_6; clear HO_7; clear HB; clear HO372; have HO_6 := n0_; have HO_7 := n1_; have HO375 := n2_; have HB := n3_; clear n0_ n1_ n2_ n3_; (try clear hb); (try clear hkp); (try clear ho0)))
                  go_loopg [7] k1 (fun kq v7 w' => ∃ (x6_2 : List Int) (x7_2 : List Int), Aside0 (latchkeyref01_Div.l1 kq l0 l1 x6_2 x7_2 (l1.length : Int) x9_1 = some (r1, r2)) ∧ Aside0 (kq ≤ k1) ∧ Aside0 (Kd.R (Kd.int .i64) 3 w' w.heap.size (fun k_ => some k_ ≠ (v7 : Value).ownBlock) v358 x6_2) ∧ Aside0 (Kd.R (Kd.int .i64) 3 w' w.heap.size (fun k_ => some k_ ≠ (v358 : Value).ownBlock) v7 x7_2) ∧ Aside0 (Below w.heap.size w w'))
                  case atStart => exact ⟨(x6_1), (t373), H', ⟨Nat.le_refl _⟩, ⟨by (with_reducible repeat (first | apply Kd.R_alloc | apply Kd.R_drewN | apply Kd.R_drew)); exact Kd.R_mono HO_6.out (fun _ hk => hk.2)⟩, ⟨by (with_reducible repeat (first | apply Kd.R_alloc | apply Kd.R_drewN | apply Kd.R_drew)); exact Kd.R_mono HO375.out (fun _ hk => hk.1)⟩, ⟨by repeat (first | (with_reducible first | exact HB.out | apply below_alloc | apply pw_below_drewN | apply below_drew1) | exact HB.out)⟩⟩
                  case round =>
                    clear H'
                    try clear c1
                    try clear c2
                    try clear p2
                    try clear c3
                    try clear c3b0
                    try clear c3b1
                    try clear p3
                    try clear q3
                    try clear hx3
                    try clear c4
                    try clear c4b0
                    try clear c4b1
                    try clear p6
                    try clear c9
                    try clear c9b0
                    try clear c10
                    try clear c10b0
                    try clear c11
                    try clear c11b0
                    try clear c12
                    try clear hx366_0
                    try clear p2
                    try clear p366
                    try clear p6
                    try clear q366
                    obtain ⟨x6_2, x7_2, HA, HK2, HO_6, HO_7, HB⟩ := hrel
                    cases gk with
                    | zero => exact absurd HA.out (by simp [latchkeyref01_Div.l1])
                    | succ k2 =>
                      have H := HA.out
                      clear HA
                      simp only [latchkeyref01_Div.l1] at H
                      replace H := Option.bind_eq_some_iff.mp H
                      obtain ⟨t376, A200, H⟩ := H
                      replace H : (if t376 ≥ 0 then (if 0 ≤ (wrap64 ((l1.length : Int) - 1)) then (if (wrap64 ((l1.length : Int) - 1)) < (x7_2.length : Int) then (if (x7_2.length : Int) > (l1.length : Int) then (if 0 ≤ (l1.length : Int) then (if (l1.length : Int) < (x7_2.length : Int) then (if (wrap64 ((l1.length : Int) - 1)) < (l1.length : Int) then (if (wrap64 ((rd l1 (wrap64 ((l1.length : Int) - 1))) + 1)) = 0 then (none) else ((latchkeyref01_Small.f k2 (mx (wrap64 (Int.tdiv (wrap64 ((rd x7_2 (wrap64 ((l1.length : Int) - 1))) + (wrap64 (65536 * (rd x7_2 (l1.length : Int)))))) (wrap64 ((rd l1 (wrap64 ((l1.length : Int) - 1))) + 1)))) 1)).bind fun t380 => ((latchkeyref01_Mul.f k2 l1 t380).bind fun t383 => ((latchkeyref01_Sub.f k2 x7_2 t383).bind fun t386 => (if 0 ≤ x9_1 then (if x9_1 < (x6_2.length : Int) then (latchkeyref01_Div.l1 k2 l0 l1 (x6_2.set (x9_1 : Int).toNat (wrap64 ((rd x6_2 x9_1) + (mx (wrap64 (Int.tdiv (wrap64 ((rd x7_2 (wrap64 ((l1.length : Int) - 1))) + (wrap64 (65536 * (rd x7_2 (l1.length : Int)))))) (wrap64 ((rd l1 (wrap64 ((l1.length : Int) - 1))) + 1)))) 1)))) t386 (l1.length : Int) x9_1) else (none)) else (none)))))) else (none)) else (none)) else (none)) else (if (wrap64 ((l1.length : Int) - 1)) < (l1.length : Int) then (if (wrap64 ((rd l1 (wrap64 ((l1.length : Int) - 1))) + 1)) = 0 then (none) else ((latchkeyref01_Small.f k2 (mx (wrap64 (Int.tdiv (rd x7_2 (wrap64 ((l1.length : Int) - 1))) (wrap64 ((rd l1 (wrap64 ((l1.length : Int) - 1))) + 1)))) 1)).bind fun t392 => ((latchkeyref01_Mul.f k2 l1 t392).bind fun t395 => ((latchkeyref01_Sub.f k2 x7_2 t395).bind fun t398 => (if 0 ≤ x9_1 then (if x9_1 < (x6_2.length : Int) then (latchkeyref01_Div.l1 k2 l0 l1 (x6_2.set (x9_1 : Int).toNat (wrap64 ((rd x6_2 x9_1) + (mx (wrap64 (Int.tdiv (rd x7_2 (wrap64 ((l1.length : Int) - 1))) (wrap64 ((rd l1 (wrap64 ((l1.length : Int) - 1))) + 1)))) 1)))) t398 (l1.length : Int) x9_1) else (none)) else (none)))))) else (none))) else (none)) else (none)) else (latchkeyref01_Div.l0 k2 l0 l1 x6_2 x7_2 (l1.length : Int) (wrap64 (x9_1 - 1)))) = some (r1, r2) := H
                      have A20 := Aside0.mk A200
                      clear A200
                      by_cases c21 : t376 ≥ 0
                      · rw [if_pos c21] at H
                        have c21b0 : decide (0 ≤ t376) = true := decide_eq_true c21
                        clear c21
                        obtain ⟨ji22, hji22⟩ : ∃ j_ : Int, (wrap64 ((l1.length : Int) - 1)) = j_ := ⟨_, rfl⟩
                        replace H : (if 0 ≤ (ji22) then (if (ji22) < (x7_2.length : Int) then (if (x7_2.length : Int) > (l1.length : Int) then (if 0 ≤ (l1.length : Int) then (if (l1.length : Int) < (x7_2.length : Int) then (if (ji22) < (l1.length : Int) then (if (wrap64 ((rd l1 (ji22)) + 1)) = 0 then (none) else ((latchkeyref01_Small.f k2 (mx (wrap64 (Int.tdiv (wrap64 ((rd x7_2 (ji22)) + (wrap64 (65536 * (rd x7_2 (l1.length : Int)))))) (wrap64 ((rd l1 (ji22)) + 1)))) 1)).bind fun t380 => ((latchkeyref01_Mul.f k2 l1 t380).bind fun t383 => ((latchkeyref01_Sub.f k2 x7_2 t383).bind fun t386 => (if 0 ≤ x9_1 then (if x9_1 < (x6_2.length : Int) then (latchkeyref01_Div.l1 k2 l0 l1 (x6_2.set (x9_1 : Int).toNat (wrap64 ((rd x6_2 x9_1) + (mx (wrap64 (Int.tdiv (wrap64 ((rd x7_2 (ji22)) + (wrap64 (65536 * (rd x7_2 (l1.length : Int)))))) (wrap64 ((rd l1 (ji22)) + 1)))) 1)))) t386 (l1.length : Int) x9_1) else (none)) else (none)))))) else (none)) else (none)) else (none)) else (if (ji22) < (l1.length : Int) then (if (wrap64 ((rd l1 (ji22)) + 1)) = 0 then (none) else ((latchkeyref01_Small.f k2 (mx (wrap64 (Int.tdiv (rd x7_2 (ji22)) (wrap64 ((rd l1 (ji22)) + 1)))) 1)).bind fun t392 => ((latchkeyref01_Mul.f k2 l1 t392).bind fun t395 => ((latchkeyref01_Sub.f k2 x7_2 t395).bind fun t398 => (if 0 ≤ x9_1 then (if x9_1 < (x6_2.length : Int) then (latchkeyref01_Div.l1 k2 l0 l1 (x6_2.set (x9_1 : Int).toNat (wrap64 ((rd x6_2 x9_1) + (mx (wrap64 (Int.tdiv (rd x7_2 (ji22)) (wrap64 ((rd l1 (ji22)) + 1)))) 1)))) t398 (l1.length : Int) x9_1) else (none)) else (none)))))) else (none))) else (none)) else (none)) = some (r1, r2) := by first | (rw [hji22] at H; exact H) | (simp only [hji22] at H ⊢; exact H)
                        (try rw [hji22] at A20)
                        have hji22w : (IntKind.i64.wrap ((l1.length : Int) - 1)) = ji22 := (i64_w _).trans hji22
                        by_cases c23 : 0 ≤ (ji22)
                        · rw [if_pos c23] at H
                          have c23b0 : decide (0 ≤ (ji22)) = true := decide_eq_true c23
                          clear c23
                          by_cases c24 : (ji22) < (x7_2.length : Int)
                          · rw [if_pos c24] at H
                            have c24b0 : decide ((ji22) < (x7_2.length : Int)) = true := decide_eq_true c24
                            clear c24
                            by_cases c25 : (x7_2.length : Int) > (l1.length : Int)
                            · rw [if_pos c25] at H
                              have c25b0 : decide ((l1.length : Int) < (x7_2.length : Int)) = true := decide_eq_true c25
                              have c25b1 : decide (l1.length < x7_2.length) = true := decide_eq_true (Int.ofNat_lt.mp c25)
                              clear c25
                              by_cases c26 : 0 ≤ (l1.length : Int)
                              · rw [if_pos c26] at H
                                have c26b0 : decide (0 ≤ (l1.length : Int)) = true := decide_eq_true c26
                                have c26b1 : decide (0 ≤ l1.length) = true := decide_eq_true (by omega)
                                clear c26
                                by_cases c27 : (l1.length : Int) < (x7_2.length : Int)
                                · rw [if_pos c27] at H
                                  have c27b0 : decide ((l1.length : Int) < (x7_2.length : Int)) = true := decide_eq_true c27
                                  have c27b1 : decide (l1.length < x7_2.length) = true := decide_eq_true (Int.ofNat_lt.mp c27)
                                  clear c27
                                  by_cases c28 : (ji22) < (l1.length : Int)
                                  · rw [if_pos c28] at H
                                    have c28b0 : decide ((ji22) < (l1.length : Int)) = true := decide_eq_true c28
                                    clear c28
                                    by_cases c29 : (wrap64 ((rd l1 (ji22)) + 1)) = 0
                                    · rw [if_pos c29] at H
                                      exact absurd H (by simp)
                                    · rw [if_neg c29] at H
                                      have c29b0 : ((wrap64 ((rd l1 (ji22)) + 1)) == 0) = false := beq_eq_false_iff_ne.mpr c29
                                      have c29b1 : ((wrap64 ((rd l1 (ji22)) + 1)) != 0) = true := bne_iff_ne.mpr c29
                                      obtain ⟨ji30, hji30⟩ : ∃ j_ : Int, (mx (wrap64 (Int.tdiv (wrap64 ((rd x7_2 (ji22)) + (wrap64 (65536 * (rd x7_2 (l1.length : Int)))))) (wrap64 ((rd l1 (ji22)) + 1)))) 1) = j_ := ⟨_, rfl⟩
                                      replace H : ((latchkeyref01_Small.f k2 (ji30)).bind fun t380 => ((latchkeyref01_Mul.f k2 l1 t380).bind fun t383 => ((latchkeyref01_Sub.f k2 x7_2 t383).bind fun t386 => (if 0 ≤ x9_1 then (if x9_1 < (x6_2.length : Int) then (latchkeyref01_Div.l1 k2 l0 l1 (x6_2.set (x9_1 : Int).toNat (wrap64 ((rd x6_2 x9_1) + (ji30)))) t386 (l1.length : Int) x9_1) else (none)) else (none))))) = some (r1, r2) := by first | (rw [hji30] at H; exact H) | (simp only [hji30] at H ⊢; exact H)
                                      (try rw [hji30] at A20)
                                      have hji30_ : (if (wrap64 (Int.tdiv (wrap64 ((rd x7_2 (ji22)) + (wrap64 (65536 * (rd x7_2 (l1.length : Int)))))) (wrap64 ((rd l1 (ji22)) + 1)))) < 1 then 1 else (wrap64 (Int.tdiv (wrap64 ((rd x7_2 (ji22)) + (wrap64 (65536 * (rd x7_2 (l1.length : Int)))))) (wrap64 ((rd l1 (ji22)) + 1))))) = ji30 := hji30
                                      replace H := Option.bind_eq_some_iff.mp H
                                      obtain ⟨t380, A310, H⟩ := H
                                      replace H : ((latchkeyref01_Mul.f k2 l1 t380).bind fun t383 => ((latchkeyref01_Sub.f k2 x7_2 t383).bind fun t386 => (if 0 ≤ x9_1 then (if x9_1 < (x6_2.length : Int) then (latchkeyref01_Div.l1 k2 l0 l1 (x6_2.set (x9_1 : Int).toNat (wrap64 ((rd x6_2 x9_1) + (ji30)))) t386 (l1.length : Int) x9_1) else (none)) else (none)))) = some (r1, r2) := H
                                      have A31 := Aside0.mk A310
                                      clear A310
                                      replace H := Option.bind_eq_some_iff.mp H
                                      obtain ⟨t383, A320, H⟩ := H
                                      replace H : ((latchkeyref01_Sub.f k2 x7_2 t383).bind fun t386 => (if 0 ≤ x9_1 then (if x9_1 < (x6_2.length : Int) then (latchkeyref01_Div.l1 k2 l0 l1 (x6_2.set (x9_1 : Int).toNat (wrap64 ((rd x6_2 x9_1) + (ji30)))) t386 (l1.length : Int) x9_1) else (none)) else (none))) = some (r1, r2) := H
                                      have A32 := Aside0.mk A320
                                      clear A320
                                      replace H := Option.bind_eq_some_iff.mp H
                                      obtain ⟨t386, A330, H⟩ := H
                                      replace H : (if 0 ≤ x9_1 then (if x9_1 < (x6_2.length : Int) then (latchkeyref01_Div.l1 k2 l0 l1 (x6_2.set (x9_1 : Int).toNat (wrap64 ((rd x6_2 x9_1) + (ji30)))) t386 (l1.length : Int) x9_1) else (none)) else (none)) = some (r1, r2) := H
                                      have A33 := Aside0.mk A330
                                      clear A330
                                      by_cases c34 : 0 ≤ x9_1
                                      · rw [if_pos c34] at H
                                        have c34b0 : decide (0 ≤ x9_1) = true := decide_eq_true c34
                                        clear c34
                                        by_cases c35 : x9_1 < (x6_2.length : Int)
                                        · rw [if_pos c35] at H
                                          have c35b0 : decide (x9_1 < (x6_2.length : Int)) = true := decide_eq_true c35
                                          clear c35
                                          obtain ⟨y390, hy390⟩ : ∃ y_ : List Int, y_ = (x6_2.set (x9_1 : Int).toNat (wrap64 ((rd x6_2 x9_1) + (ji30)))) := ⟨_, rfl⟩
                                          replace H : (latchkeyref01_Div.l1 k2 l0 l1 y390 t386 (l1.length : Int) x9_1) = some (r1, r2) := by first | (rw [hy390]; with_reducible exact H) | (have H2_ := (Option.bind_some _ _).symm.trans H; rw [hy390]; with_reducible exact H2_) | (have H2_ := (Option.bind_some _ _).symm.trans H; with_reducible exact H2_) | with_reducible exact H | (rw [hy390]; exact H) | exact H
                                          have Ny390 := Aside0.mk hy390
                                          clear hy390
                                          have H' := Aside0.mk H
                                          clear H
                                          obtain ⟨Ao37, co37, eo37⟩ := Kd.R_slice HO_7.out
                                          subst eo37
                                          go_wp2_with (first | ((with_reducible refine gate_callee (f := 27) rfl ?_); refine goesL_ (some 35) rfl rfl Try.func27 (by kernel_rfl) rfl #[.slice Ao37 x7_2.length co37, .slice A1 l1.length c1] rfl (by (try simp only [List.map_toArray, List.map_cons, List.map_nil]); first | done | rfl | (simp only [List.length_drop, List.length_take]; rfl)) ?_; (with_reducible refine (latchkeyref01_Cmp.calls k2 _ _ x7_2 _ _ l1 t376 _ ?side1 ?side2 ?side3 ?side4 A20.out).mono ?_); (case side1 => repeat (first | exact (Kd.R_reads' HO_7.out).2.2 | (with_reducible refine Kd.C_alloc ?_ _) | (with_reducible refine Kd.C_drewN ?_ _) | (with_reducible refine Kd.C_drew ?_))); (case side2 => exact (Kd.R_reads' HO_7.out).2.1); (case side3 => repeat (first | exact (Kd.C_below HR1.out HB.out) | (with_reducible refine Kd.C_alloc ?_ _) | (with_reducible refine Kd.C_drewN ?_ _) | (with_reducible refine Kd.C_drew ?_))); (case side4 => exact HC1.out); rintro e w' ⟨rfl, ⟨nd, rfl⟩⟩; refine ⟨_, rfl, ?_⟩; (try ((first | generalize hq_ : World.drewN wr nq = wr | (rw [drewN_self wr]; generalize hq_ : World.drewN wr _ = wr)); have n0_ : Aside0 (Kd.R (Kd.int .i64) 3 wr w.heap.size (fun k_ => some k_ ≠ (.slice Ao37 x7_2.length co37 : Value).ownBlock) v358 x6_2) := ⟨by rw [← hq_]; exact (by (with_reducible repeat (first | apply Kd.R_alloc | apply Kd.R_drewN | apply Kd.R_drew)); exact HO_6.out)⟩; have n1_ : Aside0 (Kd.R (Kd.int .i64) 3 wr w.heap.size (fun k_ => some k_ ≠ (v358 : Value).ownBlock) (.slice Ao37 x7_2.length co37) x7_2) := ⟨by rw [← hq_]; exact (by (with_reducible repeat (first | apply Kd.R_alloc | apply Kd.R_drewN | apply Kd.R_drew)); exact HO_7.out)⟩; have n2_ : Aside0 (Below w.heap.size w wr) := ⟨by rw [← hq_]; exact (by repeat (first | (with_reducible first | exact HB.out | apply below_alloc | apply pw_below_drewN | apply below_drew1) | exact HB.out))⟩; clear HO_6 HO_7 HB hq_; have HO_6 := n0_; have HO_7 := n1_; have HB := n2_; clear n0_ n1_ n2_)); have p377 : 0 ≤ ((ji22) : Int) := of_decide_eq_true (by first | (with_reducible assumption) | assumption); have q377 : (ji22) < (x7_2.length : Int) := of_decide_eq_true (by first | (with_reducible assumption) | assumption); obtain ⟨ad377, e377, hx377_0⟩ := Kd.at_int (Kd.R_reads' HO_7.out).2.2 (ji22) p377 q377; cases e377; replace p377 := eq_true p377; replace q377 := eq_true q377; have p378 : 0 ≤ ((l1.length : Int) : Int) := of_decide_eq_true (by first | (with_reducible assumption) | assumption); have q378 : (l1.length : Int) < (x7_2.length : Int) := of_decide_eq_true (by first | (with_reducible assumption) | assumption); obtain ⟨ad378, e378, hx378_0⟩ := Kd.at_int (Kd.R_reads' HO_7.out).2.2 (l1.length : Int) p378 q378; obtain rfl : ad377 = ad378 := (by injection e378); (try simp only [Go.IntWalk.toNatUp] at hx378_0); replace p378 := eq_true p378; replace q378 := eq_true q378; have p379 : 0 ≤ ((ji22) : Int) := of_decide_eq_true (by first | (with_reducible assumption) | assumption); have q379 : (ji22) < (l1.length : Int) := of_decide_eq_true (by first | (with_reducible assumption) | assumption); obtain ⟨ad379, e379, hx379_0⟩ := Kd.at_int HR1.out (ji22) p379 q379; cases e379; replace hx379_0 := (HB.out.cell (World.block_lt_of_cell? w _ hx379_0)).trans hx379_0; replace p379 := eq_true p379; replace q379 := eq_true q379) | ((with_reducible refine gate_callee (f := 55) rfl ?_); refine goesL_ (some 65) rfl rfl Try.func55 (by kernel_rfl) rfl #[.int .i64 ji30] rfl (by (try simp only [List.map_toArray, List.map_cons, List.map_nil]); first | done | (simp only [hji30]; rfl) | rfl | (simp only [List.length_drop, List.length_take]; rfl)) ?_; (with_reducible refine (latchkeyref01_Small.calls k2 ji30 t380 _ A31.out).mono ?_); rintro e w38 ⟨v381, rfl, ho0, hb⟩; refine ⟨_, rfl, ?_⟩; have n0_ := Aside0.mk (Kd.R_elder' (by (with_reducible repeat (first | apply Kd.R_alloc | apply Kd.R_drewN | apply Kd.R_drew)); exact HO_6.out) (Kd.R_base ho0) hb); have n1_ := Aside0.mk (Kd.R_elder' (by (with_reducible repeat (first | apply Kd.R_alloc | apply Kd.R_drewN | apply Kd.R_drew)); exact HO_7.out) (Kd.R_base ho0) hb); have n2_ := Aside0.mk (Kd.R_lower (Kd.R_new' (Kd.R_new' ho0 (Kd.R_lt (by (with_reducible repeat (first | apply Kd.R_alloc | apply Kd.R_drewN | apply Kd.R_drew)); exact HO_6.out))) (Kd.R_lt (by (with_reducible repeat (first | apply Kd.R_alloc | apply Kd.R_drewN | apply Kd.R_drew)); exact HO_7.out))) (below_size (by repeat (first | (with_reducible first | exact HB.out | apply below_alloc | apply pw_below_drewN | apply below_drew1) | exact HB.out)))); have n3_ := Aside0.mk (below_step (by repeat (first | (with_reducible first | exact HB.out | apply below_alloc | apply pw_below_drewN | apply below_drew1) | exact HB.out)) hb); clear HO_6; clear HO_7; clear HB; have HO_6 := n0_; have HO_7 := n1_; have HO382 := n2_; have HB := n3_; clear n0_ n1_ n2_ n3_; (try clear hb); (try clear hb2); (try clear hk); (try clear hi); (try clear ho0); obtain ⟨Ao39, co39, eo39⟩ := Kd.R_slice HO382.out; subst eo39) | ((with_reducible refine gate_callee (f := 41) rfl ?_); refine goesL_ (some 66) rfl rfl Try.func41 (by kernel_rfl) rfl #[.slice (some ad379) l1.length c1, .slice Ao39 t380.length co39] rfl (by (try simp only [List.map_toArray, List.map_cons, List.map_nil]); first | done | rfl | (simp only [List.length_drop, List.length_take]; rfl)) ?_; (with_reducible refine (latchkeyref01_Mul.calls k2 _ _ l1 _ _ t380 t383 _ ?side1 ?side2 ?side3 ?side4 A32.out).mono ?_); (case side1 => repeat (first | exact (Kd.C_below HR1.out HB.out) | (with_reducible refine Kd.C_alloc ?_ _) | (with_reducible refine Kd.C_drewN ?_ _) | (with_reducible refine Kd.C_drew ?_))); (case side2 => exact HC1.out); (case side3 => repeat (first | exact (Kd.R_reads' HO382.out).2.2 | (with_reducible refine Kd.C_alloc ?_ _) | (with_reducible refine Kd.C_drewN ?_ _) | (with_reducible refine Kd.C_drew ?_))); (case side4 => exact (Kd.R_reads' HO382.out).2.1); rintro e w40 ⟨v384, rfl, ho0, hb⟩; refine ⟨_, rfl, ?_⟩; have n0_ := Aside0.mk (Kd.R_elder' (by (with_reducible repeat (first | apply Kd.R_alloc | apply Kd.R_drewN | apply Kd.R_drew)); exact HO_6.out) (Kd.R_base ho0) hb); have n1_ := Aside0.mk (Kd.R_elder' (by (with_reducible repeat (first | apply Kd.R_alloc | apply Kd.R_drewN | apply Kd.R_drew)); exact HO_7.out) (Kd.R_base ho0) hb); have n2_ := Aside0.mk (Kd.R_elder' (by (with_reducible repeat (first | apply Kd.R_alloc | apply Kd.R_drewN | apply Kd.R_drew)); exact HO382.out) (Kd.R_base ho0) hb); have n3_ := Aside0.mk (Kd.R_lower (Kd.R_new' (Kd.R_new' (Kd.R_new' ho0 (Kd.R_lt (by (with_reducible repeat (first | apply Kd.R_alloc | apply Kd.R_drewN | apply Kd.R_drew)); exact HO_6.out))) (Kd.R_lt (by (with_reducible repeat (first | apply Kd.R_alloc | apply Kd.R_drewN | apply Kd.R_drew)); exact HO_7.out))) (Kd.R_lt (by (with_reducible repeat (first | apply Kd.R_alloc | apply Kd.R_drewN | apply Kd.R_drew)); exact HO382.out))) (below_size (by repeat (first | (with_reducible first | exact HB.out | apply below_alloc | apply pw_below_drewN | apply below_drew1) | exact HB.out)))); have n4_ := Aside0.mk (below_step (by repeat (first | (with_reducible first | exact HB.out | apply below_alloc | apply pw_below_drewN | apply below_drew1) | exact HB.out)) hb); clear HO_6; clear HO_7; clear HO382; clear HB; have HO_6 := n0_; have HO_7 := n1_; have HO382 := n2_; have HO385 := n3_; have HB := n4_; clear n0_ n1_ n2_ n3_ n4_; (try clear hb); (try clear hb2); (try clear hk); (try clear hi); (try clear ho0); obtain ⟨Ao41, co41, eo41⟩ := Kd.R_slice HO385.out; subst eo41) | ((with_reducible refine gate_callee (f := 43) rfl ?_); refine goesL_ (some 67) rfl rfl Try.func43 (by kernel_rfl) rfl #[.slice (some ad377) x7_2.length co37, .slice Ao41 t383.length co41] rfl (by (try simp only [List.map_toArray, List.map_cons, List.map_nil]); first | done | rfl | (simp only [List.length_drop, List.length_take]; rfl)) ?_; (with_reducible refine (latchkeyref01_Sub.calls k2 _ _ x7_2 _ _ t383 t386 _ ?side1 ?side2 ?side3 ?side4 A33.out).mono ?_); (case side1 => repeat (first | exact (Kd.R_reads' HO_7.out).2.2 | (with_reducible refine Kd.C_alloc ?_ _) | (with_reducible refine Kd.C_drewN ?_ _) | (with_reducible refine Kd.C_drew ?_))); (case side2 => exact (Kd.R_reads' HO_7.out).2.1); (case side3 => repeat (first | exact (Kd.R_reads' HO385.out).2.2 | (with_reducible refine Kd.C_alloc ?_ _) | (with_reducible refine Kd.C_drewN ?_ _) | (with_reducible refine Kd.C_drew ?_))); (case side4 => exact (Kd.R_reads' HO385.out).2.1); rintro e w42 ⟨v387, rfl, ho0, hb⟩; refine ⟨_, rfl, ?_⟩; have n0_ := Aside0.mk (Kd.R_elder' (by (with_reducible repeat (first | apply Kd.R_alloc | apply Kd.R_drewN | apply Kd.R_drew)); exact HO_6.out) (Kd.R_base ho0) hb); have n1_ := Aside0.mk (Kd.R_elder' (by (with_reducible repeat (first | apply Kd.R_alloc | apply Kd.R_drewN | apply Kd.R_drew)); exact HO_7.out) (Kd.R_base ho0) hb); have n2_ := Aside0.mk (Kd.R_elder' (by (with_reducible repeat (first | apply Kd.R_alloc | apply Kd.R_drewN | apply Kd.R_drew)); exact HO382.out) (Kd.R_base ho0) hb); have n3_ := Aside0.mk (Kd.R_elder' (by (with_reducible repeat (first | apply Kd.R_alloc | apply Kd.R_drewN | apply Kd.R_drew)); exact HO385.out) (Kd.R_base ho0) hb); have n4_ := Aside0.mk (Kd.R_lower (Kd.R_new' (Kd.R_new' (Kd.R_new' (Kd.R_new' ho0 (Kd.R_lt (by (with_reducible repeat (first | apply Kd.R_alloc | apply Kd.R_drewN | apply Kd.R_drew)); exact HO_6.out))) (Kd.R_lt (by (with_reducible repeat (first | apply Kd.R_alloc | apply Kd.R_drewN | apply Kd.R_drew)); exact HO_7.out))) (Kd.R_lt (by (with_reducible repeat (first | apply Kd.R_alloc | apply Kd.R_drewN | apply Kd.R_drew)); exact HO382.out))) (Kd.R_lt (by (with_reducible repeat (first | apply Kd.R_alloc | apply Kd.R_drewN | apply Kd.R_drew)); exact HO385.out))) (below_size (by repeat (first | (with_reducible first | exact HB.out | apply below_alloc | apply pw_below_drewN | apply below_drew1) | exact HB.out)))); have n5_ := Aside0.mk (below_step (by repeat (first | (with_reducible first | exact HB.out | apply below_alloc | apply pw_below_drewN | apply below_drew1) | exact HB.out)) hb); clear HO_6; clear HO_7; clear HO382; clear HO385; clear HB; have HO_6 := n0_; have HO_7 := n1_; have HO382 := n2_; have HO385 := n3_; have HO388 := n4_; have HB := n5_; clear n0_ n1_ n2_ n3_ n4_ n5_; (try clear hb); (try clear hb2); (try clear hk); (try clear hi); (try clear ho0); obtain ⟨Ao43, co43, eo43⟩ := Kd.R_slice HO_6.out; subst eo43; have p389 : 0 ≤ (x9_1 : Int) := of_decide_eq_true (by first | (with_reducible assumption) | assumption); have q389 : x9_1 < (x6_2.length : Int) := of_decide_eq_true (by first | (with_reducible assumption) | assumption); obtain ⟨ad389, e389, hx389_0⟩ := Kd.at_int (Kd.R_reads' HO_6.out).2.2 x9_1 p389 q389; cases e389; replace p389 := eq_true p389; replace q389 := eq_true q389; have p36 : 0 ≤ (x9_1 : Int) := of_decide_eq_true (by first | (with_reducible assumption) | assumption); have q36 : (x9_1 : Int) < ((x6_2.length : Int) : Int) := of_decide_eq_true (by first | (with_reducible assumption) | assumption); obtain ⟨go36, co36, eo36, gb36, gl36, cl36, HG36⟩ := Kd.R_form HO_6.out (by omega); (first | cases eo36 | (injection eo36 with ea_ en_ ec_; (first | subst ea_ | (injection ea_ with ea_; subst ea_)); subst ec_; clear en_)); have GB36 := Aside0.mk gb36; have GG36 := Aside0.mk HG36; clear gb36 gl36 HG36; (first | simp only [add_plain] at hx389_0 | skip); obtain ⟨hx36_0, hf36_0⟩ := Kd.R_celln 0 HO_6.out (x9_1 : Int) p36 q36; replace p36 := eq_true p36; replace q36 := eq_true q36; have n_ := Aside0.mk (Kd.R_mono (ok' := (fun k_ => some k_ ≠ (.slice (some ad377) x7_2.length co37 : Value).ownBlock ∧ some k_ ≠ (.slice Ao39 t380.length co39 : Value).ownBlock ∧ some k_ ≠ (.slice Ao41 t383.length co41 : Value).ownBlock ∧ some k_ ≠ (v387 : Value).ownBlock)) HO_6.out (fun k_ hk => ⟨hk.1.1.1, ⟨hk.1.1.2, ⟨hk.1.2, hk.2⟩⟩⟩)); clear HO_6; have HO_6 := n_; clear n_; obtain ⟨hy44_, hz44_⟩ := Kd.R_celln 0 HO_6.out (x9_1 : Int) (of_decide_eq_true (by first | (with_reducible assumption) | assumption)) (of_decide_eq_true (by first | (with_reducible assumption) | assumption)); have HP44 := Kd.R_putg HO_6.out (x9_1 : Int) (wrap64 ((rd x6_2 x9_1) + (ji30)))) | ((with_reducible refine gate_store (t := 3) (p := 76) rfl ?_); refine store_event (t := 3) (p := 76) (v := ?vo_w45) (w1 := (w42.setCell ⟨go36, (x9_1 : Int).toNat, none⟩ (.int .i64 (wrap64 ((rd x6_2 x9_1) + (ji30)))))) ?hg ?ho ?hn ?hr ?_; (case ho => rfl); (case hg => rfl); (case hn => rfl); (case hr => first | (go_simp; done) | (go_simp; rfl)); intro w45 hw; have hg : w42.grownBy w45 (some go36) := (by rw [hw]; exact HP44.2); have hp_ : Kd.R (Kd.int .i64) 3 w45 w.heap.size (fun k_ => some k_ ≠ (.slice (some ad377) x7_2.length co37 : Value).ownBlock ∧ some k_ ≠ (.slice Ao39 t380.length co39 : Value).ownBlock ∧ some k_ ≠ (.slice Ao41 t383.length co41 : Value).ownBlock ∧ some k_ ≠ (v387 : Value).ownBlock) (.slice (some ⟨go36, 0, none⟩) x6_2.length co43) y390 := (by rw [hw, Ny390.out]; exact HP44.1); clear HP44; have n0_ := Aside0.mk (hp_); have n1_ := Aside0.mk (Kd.R_after (v := (.slice (some ⟨go36, 0, none⟩) x6_2.length co43)) (v1 := (.slice (some ⟨go36, 0, none⟩) x6_2.length co43)) (ok := (fun k_ => some k_ ≠ (.slice Ao39 t380.length co39 : Value).ownBlock ∧ some k_ ≠ (.slice Ao41 t383.length co41 : Value).ownBlock ∧ some k_ ≠ (v387 : Value).ownBlock)) (by (with_reducible repeat (first | apply Kd.R_alloc | apply Kd.R_drewN | apply Kd.R_drew)); exact Kd.R_mono HO_7.out (fun _ hk => ⟨⟨hk.1.1.2, ⟨hk.1.2, hk.2⟩⟩, hk.1.1.1⟩)) hg (.inl rfl)); have n2_ := Aside0.mk (Kd.R_after (v := (.slice (some ⟨go36, 0, none⟩) x6_2.length co43)) (v1 := (.slice (some ⟨go36, 0, none⟩) x6_2.length co43)) (ok := (fun k_ => some k_ ≠ (.slice (some ad377) x7_2.length co37 : Value).ownBlock ∧ some k_ ≠ (.slice Ao41 t383.length co41 : Value).ownBlock ∧ some k_ ≠ (v387 : Value).ownBlock)) (by (with_reducible repeat (first | apply Kd.R_alloc | apply Kd.R_drewN | apply Kd.R_drew)); exact Kd.R_mono HO382.out (fun _ hk => ⟨⟨hk.1.1.2, ⟨hk.1.2, hk.2⟩⟩, hk.1.1.1.2⟩)) hg (.inl rfl)); have n3_ := Aside0.mk (Kd.R_after (v := (.slice (some ⟨go36, 0, none⟩) x6_2.length co43)) (v1 := (.slice (some ⟨go36, 0, none⟩) x6_2.length co43)) (ok := (fun k_ => some k_ ≠ (.slice (some ad377) x7_2.length co37 : Value).ownBlock ∧ some k_ ≠ (.slice Ao39 t380.length co39 : Value).ownBlock ∧ some k_ ≠ (v387 : Value).ownBlock)) (by (with_reducible repeat (first | apply Kd.R_alloc | apply Kd.R_drewN | apply Kd.R_drew)); exact Kd.R_mono HO385.out (fun _ hk => ⟨⟨hk.1.1.2, ⟨hk.1.2, hk.2⟩⟩, hk.1.1.1.2⟩)) hg (.inl rfl)); have n4_ := Aside0.mk (Kd.R_after (v := (.slice (some ⟨go36, 0, none⟩) x6_2.length co43)) (v1 := (.slice (some ⟨go36, 0, none⟩) x6_2.length co43)) (ok := (fun k_ => some k_ ≠ (.slice (some ad377) x7_2.length co37 : Value).ownBlock ∧ some k_ ≠ (.slice Ao39 t380.length co39 : Value).ownBlock ∧ some k_ ≠ (.slice Ao41 t383.length co41 : Value).ownBlock)) (by (with_reducible repeat (first | apply Kd.R_alloc | apply Kd.R_drewN | apply Kd.R_drew)); exact Kd.R_mono HO388.out (fun _ hk => ⟨⟨hk.1.1.2, ⟨hk.1.2, hk.2⟩⟩, hk.1.1.1.2⟩)) hg (.inl rfl)); have n5_ := Aside0.mk ((by rw [hw]; exact below_set (HB.out) GB36.out : Below w.heap.size w w45)); clear HO_6; clear HO_7; clear HO382; clear HO385; clear HO388; clear HB; have HO_6 := n0_; have HO_7 := n1_; have HO382 := n2_; have HO385 := n3_; have HO388 := n4_; have HB := n5_; clear n0_ n1_ n2_ n3_ n4_ n5_; clear hg hw hp_))
                                          go_roundg k2
                                          case measure => have := HK1.out; have := HK2.out; omega
                                          case rel => exact ⟨(y390), (t386), H', ⟨by have := HK1.out; have := HK2.out; omega⟩, ⟨by (with_reducible repeat (first | apply Kd.R_alloc | apply Kd.R_drewN | apply Kd.R_drew)); exact Kd.R_mono HO_6.out (fun _ hk => hk.2.2.2)⟩, ⟨by (with_reducible repeat (first | apply Kd.R_alloc | apply Kd.R_drewN | apply Kd.R_drew)); exact Kd.R_mono HO388.out (fun _ hk => hk.2)⟩, ⟨by repeat (first | (with_reducible first | exact HB.out | apply below_alloc | apply pw_below_drewN | apply below_drew1) | exact HB.out)⟩⟩
                                        · rw [if_neg c35] at H
                                          exact absurd H (by simp)
                                      · rw [if_neg c34] at H
                                        exact absurd H (by simp)
                                  · rw [if_neg c28] at H
                                    exact absurd H (by simp)
                                · rw [if_neg c27] at H
                                  exact absurd H (by simp)
                              · rw [if_neg c26] at H
                                exact absurd H (by simp)
                            · rw [if_neg c25] at H
                              have c25b0 : decide ((l1.length : Int) < (x7_2.length : Int)) = false := decide_eq_false c25
                              have c25b1 : decide (l1.length < x7_2.length) = false := decide_eq_false (fun h => c25 (Int.ofNat_lt.mpr h))
                              clear c25
                              by_cases c46 : (ji22) < (l1.length : Int)
                              · rw [if_pos c46] at H
                                have c46b0 : decide ((ji22) < (l1.length : Int)) = true := decide_eq_true c46
                                clear c46
                                by_cases c47 : (wrap64 ((rd l1 (ji22)) + 1)) = 0
                                · rw [if_pos c47] at H
                                  exact absurd H (by simp)
                                · rw [if_neg c47] at H
                                  have c47b0 : ((wrap64 ((rd l1 (ji22)) + 1)) == 0) = false := beq_eq_false_iff_ne.mpr c47
                                  have c47b1 : ((wrap64 ((rd l1 (ji22)) + 1)) != 0) = true := bne_iff_ne.mpr c47
                                  obtain ⟨ji48, hji48⟩ : ∃ j_ : Int, (mx (wrap64 (Int.tdiv (rd x7_2 (ji22)) (wrap64 ((rd l1 (ji22)) + 1)))) 1) = j_ := ⟨_, rfl⟩
                                  replace H : ((latchkeyref01_Small.f k2 (ji48)).bind fun t392 => ((latchkeyref01_Mul.f k2 l1 t392).bind fun t395 => ((latchkeyref01_Sub.f k2 x7_2 t395).bind fun t398 => (if 0 ≤ x9_1 then (if x9_1 < (x6_2.length : Int) then (latchkeyref01_Div.l1 k2 l0 l1 (x6_2.set (x9_1 : Int).toNat (wrap64 ((rd x6_2 x9_1) + (ji48)))) t398 (l1.length : Int) x9_1) else (none)) else (none))))) = some (r1, r2) := by first | (rw [hji48] at H; exact H) | (simp only [hji48] at H ⊢; exact H)
                                  (try rw [hji48] at A20)
                                  have hji48_ : (if (wrap64 (Int.tdiv (rd x7_2 (ji22)) (wrap64 ((rd l1 (ji22)) + 1)))) < 1 then 1 else (wrap64 (Int.tdiv (rd x7_2 (ji22)) (wrap64 ((rd l1 (ji22)) + 1))))) = ji48 := hji48
                                  replace H := Option.bind_eq_some_iff.mp H
                                  obtain ⟨t392, A490, H⟩ := H
                                  replace H : ((latchkeyref01_Mul.f k2 l1 t392).bind fun t395 => ((latchkeyref01_Sub.f k2 x7_2 t395).bind fun t398 => (if 0 ≤ x9_1 then (if x9_1 < (x6_2.length : Int) then (latchkeyref01_Div.l1 k2 l0 l1 (x6_2.set (x9_1 : Int).toNat (wrap64 ((rd x6_2 x9_1) + (ji48)))) t398 (l1.length : Int) x9_1) else (none)) else (none)))) = some (r1, r2) := H
                                  have A49 := Aside0.mk A490
                                  clear A490
                                  replace H := Option.bind_eq_some_iff.mp H
                                  obtain ⟨t395, A500, H⟩ := H
                                  replace H : ((latchkeyref01_Sub.f k2 x7_2 t395).bind fun t398 => (if 0 ≤ x9_1 then (if x9_1 < (x6_2.length : Int) then (latchkeyref01_Div.l1 k2 l0 l1 (x6_2.set (x9_1 : Int).toNat (wrap64 ((rd x6_2 x9_1) + (ji48)))) t398 (l1.length : Int) x9_1) else (none)) else (none))) = some (r1, r2) := H
                                  have A50 := Aside0.mk A500
                                  clear A500
                                  replace H := Option.bind_eq_some_iff.mp H
                                  obtain ⟨t398, A510, H⟩ := H
                                  replace H : (if 0 ≤ x9_1 then (if x9_1 < (x6_2.length : Int) then (latchkeyref01_Div.l1 k2 l0 l1 (x6_2.set (x9_1 : Int).toNat (wrap64 ((rd x6_2 x9_1) + (ji48)))) t398 (l1.length : Int) x9_1) else (none)) else (none)) = some (r1, r2) := H
                                  have A51 := Aside0.mk A510
                                  clear A510
                                  by_cases c52 : 0 ≤ x9_1
                                  · rw [if_pos c52] at H
                                    have c52b0 : decide (0 ≤ x9_1) = true := decide_eq_true c52
                                    clear c52
                                    by_cases c53 : x9_1 < (x6_2.length : Int)
                                    · rw [if_pos c53] at H
                                      have c53b0 : decide (x9_1 < (x6_2.length : Int)) = true := decide_eq_true c53
                                      clear c53
                                      obtain ⟨y402, hy402⟩ : ∃ y_ : List Int, y_ = (x6_2.set (x9_1 : Int).toNat (wrap64 ((rd x6_2 x9_1) + (ji48)))) := ⟨_, rfl⟩
                                      replace H : (latchkeyref01_Div.l1 k2 l0 l1 y402 t398 (l1.length : Int) x9_1) = some (r1, r2) := by first | (rw [hy402]; with_reducible exact H) | (have H2_ := (Option.bind_some _ _).symm.trans H; rw [hy402]; with_reducible exact H2_) | (have H2_ := (Option.bind_some _ _).symm.trans H; with_reducible exact H2_) | with_reducible exact H | (rw [hy402]; exact H) | exact H
                                      have Ny402 := Aside0.mk hy402
                                      clear hy402
                                      have H' := Aside0.mk H
                                      clear H
                                      obtain ⟨Ao55, co55, eo55⟩ := Kd.R_slice HO_7.out
                                      subst eo55
                                      go_wp2_with (first | ((with_reducible refine gate_callee (f := 27) rfl ?_); refine goesL_ (some 35) rfl rfl Try.func27 (by kernel_rfl) rfl #[.slice Ao55 x7_2.length co55, .slice A1 l1.length c1] rfl (by (try simp only [List.map_toArray, List.map_cons, List.map_nil]); first | done | rfl | (simp only [List.length_drop, List.length_take]; rfl)) ?_; (with_reducible refine (latchkeyref01_Cmp.calls k2 _ _ x7_2 _ _ l1 t376 _ ?side1 ?side2 ?side3 ?side4 A20.out).mono ?_); (case side1 => repeat (first | exact (Kd.R_reads' HO_7.out).2.2 | (with_reducible refine Kd.C_alloc ?_ _) | (with_reducible refine Kd.C_drewN ?_ _) | (with_reducible refine Kd.C_drew ?_))); (case side2 => exact (Kd.R_reads' HO_7.out).2.1); (case side3 => repeat (first | exact (Kd.C_below HR1.out HB.out) | (with_reducible refine Kd.C_alloc ?_ _) | (with_reducible refine Kd.C_drewN ?_ _) | (with_reducible refine Kd.C_drew ?_))); (case side4 => exact HC1.out); rintro e w' ⟨rfl, ⟨nd, rfl⟩⟩; refine ⟨_, rfl, ?_⟩; (try ((first | generalize hq_ : World.drewN wr nq = wr | (rw [drewN_self wr]; generalize hq_ : World.drewN wr _ = wr)); have n0_ : Aside0 (Kd.R (Kd.int .i64) 3 wr w.heap.size (fun k_ => some k_ ≠ (.slice Ao55 x7_2.length co55 : Value).ownBlock) v358 x6_2) := ⟨by rw [← hq_]; exact (by (with_reducible repeat (first | apply Kd.R_alloc | apply Kd.R_drewN | apply Kd.R_drew)); exact HO_6.out)⟩; have n1_ : Aside0 (Kd.R (Kd.int .i64) 3 wr w.heap.size (fun k_ => some k_ ≠ (v358 : Value).ownBlock) (.slice Ao55 x7_2.length co55) x7_2) := ⟨by rw [← hq_]; exact (by (with_reducible repeat (first | apply Kd.R_alloc | apply Kd.R_drewN | apply Kd.R_drew)); exact HO_7.out)⟩; have n2_ : Aside0 (Below w.heap.size w wr) := ⟨by rw [← hq_]; exact (by repeat (first | (with_reducible first | exact HB.out | apply below_alloc | apply pw_below_drewN | apply below_drew1) | exact HB.out))⟩; clear HO_6 HO_7 HB hq_; have HO_6 := n0_; have HO_7 := n1_; have HB := n2_; clear n0_ n1_ n2_)); have p377 : 0 ≤ ((ji22) : Int) := of_decide_eq_true (by first | (with_reducible assumption) | assumption); have q377 : (ji22) < (x7_2.length : Int) := of_decide_eq_true (by first | (with_reducible assumption) | assumption); obtain ⟨ad377, e377, hx377_0⟩ := Kd.at_int (Kd.R_reads' HO_7.out).2.2 (ji22) p377 q377; cases e377; replace p377 := eq_true p377; replace q377 := eq_true q377; have p391 : 0 ≤ ((ji22) : Int) := of_decide_eq_true (by first | (with_reducible assumption) | assumption); have q391 : (ji22) < (l1.length : Int) := of_decide_eq_true (by first | (with_reducible assumption) | assumption); obtain ⟨ad391, e391, hx391_0⟩ := Kd.at_int HR1.out (ji22) p391 q391; cases e391; replace hx391_0 := (HB.out.cell (World.block_lt_of_cell? w _ hx391_0)).trans hx391_0; replace p391 := eq_true p391; replace q391 := eq_true q391) | ((with_reducible refine gate_callee (f := 55) rfl ?_); refine goesL_ (some 65) rfl rfl Try.func55 (by kernel_rfl) rfl #[.int .i64 ji48] rfl (by (try simp only [List.map_toArray, List.map_cons, List.map_nil]); first | done | (simp only [hji48]; rfl) | rfl | (simp only [List.length_drop, List.length_take]; rfl)) ?_; (with_reducible refine (latchkeyref01_Small.calls k2 ji48 t392 _ A49.out).mono ?_); rintro e w56 ⟨v393, rfl, ho0, hb⟩; refine ⟨_, rfl, ?_⟩; have n0_ := Aside0.mk (Kd.R_elder' (by (with_reducible repeat (first | apply Kd.R_alloc | apply Kd.R_drewN | apply Kd.R_drew)); exact HO_6.out) (Kd.R_base ho0) hb); have n1_ := Aside0.mk (Kd.R_elder' (by (with_reducible repeat (first | apply Kd.R_alloc | apply Kd.R_drewN | apply Kd.R_drew)); exact HO_7.out) (Kd.R_base ho0) hb); have n2_ := Aside0.mk (Kd.R_lower (Kd.R_new' (Kd.R_new' ho0 (Kd.R_lt (by (with_reducible repeat (first | apply Kd.R_alloc | apply Kd.R_drewN | apply Kd.R_drew)); exact HO_6.out))) (Kd.R_lt (by (with_reducible repeat (first | apply Kd.R_alloc | apply Kd.R_drewN | apply Kd.R_drew)); exact HO_7.out))) (below_size (by repeat (first | (with_reducible first | exact HB.out | apply below_alloc | apply pw_below_drewN | apply below_drew1) | exact HB.out)))); have n3_ := Aside0.mk (below_step (by repeat (first | (with_reducible first | exact HB.out | apply below_alloc | apply pw_below_drewN | apply below_drew1) | exact HB.out)) hb); clear HO_6; clear HO_7; clear HB; have HO_6 := n0_; have HO_7 := n1_; have HO394 := n2_; have HB := n3_; clear n0_ n1_ n2_ n3_; (try clear hb); (try clear hb2); (try clear hk); (try clear hi); (try clear ho0); obtain ⟨Ao57, co57, eo57⟩ := Kd.R_slice HO394.out; subst eo57) | ((with_reducible refine gate_callee (f := 41) rfl ?_); refine goesL_ (some 66) rfl rfl Try.func41 (by kernel_rfl) rfl #[.slice (some ad391) l1.length c1, .slice Ao57 t392.length co57] rfl (by (try simp only [List.map_toArray, List.map_cons, List.map_nil]); first | done | rfl | (simp only [List.length_drop, List.length_take]; rfl)) ?_; (with_reducible refine (latchkeyref01_Mul.calls k2 _ _ l1 _ _ t392 t395 _ ?side1 ?side2 ?side3 ?side4 A50.out).mono ?_); (case side1 => repeat (first | exact (Kd.C_below HR1.out HB.out) | (with_reducible refine Kd.C_alloc ?_ _) | (with_reducible refine Kd.C_drewN ?_ _) | (with_reducible refine Kd.C_drew ?_))); (case side2 => exact HC1.out); (case side3 => repeat (first | exact (Kd.R_reads' HO394.out).2.2 | (with_reducible refine Kd.C_alloc ?_ _) | (with_reducible refine Kd.C_drewN ?_ _) | (with_reducible refine Kd.C_drew ?_))); (case side4 => exact (Kd.R_reads' HO394.out).2.1); rintro e w58 ⟨v396, rfl, ho0, hb⟩; refine ⟨_, rfl, ?_⟩; have n0_ := Aside0.mk (Kd.R_elder' (by (with_reducible repeat (first | apply Kd.R_alloc | apply Kd.R_drewN | apply Kd.R_drew)); exact HO_6.out) (Kd.R_base ho0) hb); have n1_ := Aside0.mk (Kd.R_elder' (by (with_reducible repeat (first | apply Kd.R_alloc | apply Kd.R_drewN | apply Kd.R_drew)); exact HO_7.out) (Kd.R_base ho0) hb); have n2_ := Aside0.mk (Kd.R_elder' (by (with_reducible repeat (first | apply Kd.R_alloc | apply Kd.R_drewN | apply Kd.R_drew)); exact HO394.out) (Kd.R_base ho0) hb); have n3_ := Aside0.mk (Kd.R_lower (Kd.R_new' (Kd.R_new' (Kd.R_new' ho0 (Kd.R_lt (by (with_reducible repeat (first | apply Kd.R_alloc | apply Kd.R_drewN | apply Kd.R_drew)); exact HO_6.out))) (Kd.R_lt (by (with_reducible repeat (first | apply Kd.R_alloc | apply Kd.R_drewN | apply Kd.R_drew)); exact HO_7.out))) (Kd.R_lt (by (with_reducible repeat (first | apply Kd.R_alloc | apply Kd.R_drewN | apply Kd.R_drew)); exact HO394.out))) (below_size (by repeat (first | (with_reducible first | exact HB.out | apply below_alloc | apply pw_below_drewN | apply below_drew1) | exact HB.out)))); have n4_ := Aside0.mk (below_step (by repeat (first | (with_reducible first | exact HB.out | apply below_alloc | apply pw_below_drewN | apply below_drew1) | exact HB.out)) hb); clear HO_6; clear HO_7; clear HO394; clear HB; have HO_6 := n0_; have HO_7 := n1_; have HO394 := n2_; have HO397 := n3_; have HB := n4_; clear n0_ n1_ n2_ n3_ n4_; (try clear hb); (try clear hb2); (try clear hk); (try clear hi); (try clear ho0); obtain ⟨Ao59, co59, eo59⟩ := Kd.R_slice HO397.out; subst eo59) | ((with_reducible refine gate_callee (f := 43) rfl ?_); refine goesL_ (some 67) rfl rfl Try.func43 (by kernel_rfl) rfl #[.slice (some ad377) x7_2.length co55, .slice Ao59 t395.length co59] rfl (by (try simp only [List.map_toArray, List.map_cons, List.map_nil]); first | done | rfl | (simp only [List.length_drop, List.length_take]; rfl)) ?_; (with_reducible refine (latchkeyref01_Sub.calls k2 _ _ x7_2 _ _ t395 t398 _ ?side1 ?side2 ?side3 ?side4 A51.out).mono ?_); (case side1 => repeat (first | exact (Kd.R_reads' HO_7.out).2.2 | (with_reducible refine Kd.C_alloc ?_ _) | (with_reducible refine Kd.C_drewN ?_ _) | (with_reducible refine Kd.C_drew ?_))); (case side2 => exact (Kd.R_reads' HO_7.out).2.1); (case side3 => repeat (first | exact (Kd.R_reads' HO397.out).2.2 | (with_reducible refine Kd.C_alloc ?_ _) | (with_reducible refine Kd.C_drewN ?_ _) | (with_reducible refine Kd.C_drew ?_))); (case side4 => exact (Kd.R_reads' HO397.out).2.1); rintro e w60 ⟨v399, rfl, ho0, hb⟩; refine ⟨_, rfl, ?_⟩; have n0_ := Aside0.mk (Kd.R_elder' (by (with_reducible repeat (first | apply Kd.R_alloc | apply Kd.R_drewN | apply Kd.R_drew)); exact HO_6.out) (Kd.R_base ho0) hb); have n1_ := Aside0.mk (Kd.R_elder' (by (with_reducible repeat (first | apply Kd.R_alloc | apply Kd.R_drewN | apply Kd.R_drew)); exact HO_7.out) (Kd.R_base ho0) hb); have n2_ := Aside0.mk (Kd.R_elder' (by (with_reducible repeat (first | apply Kd.R_alloc | apply Kd.R_drewN | apply Kd.R_drew)); exact HO394.out) (Kd.R_base ho0) hb); have n3_ := Aside0.mk (Kd.R_elder' (by (with_reducible repeat (first | apply Kd.R_alloc | apply Kd.R_drewN | apply Kd.R_drew)); exact HO397.out) (Kd.R_base ho0) hb); have n4_ := Aside0.mk (Kd.R_lower (Kd.R_new' (Kd.R_new' (Kd.R_new' (Kd.R_new' ho0 (Kd.R_lt (by (with_reducible repeat (first | apply Kd.R_alloc | apply Kd.R_drewN | apply Kd.R_drew)); exact HO_6.out))) (Kd.R_lt (by (with_reducible repeat (first | apply Kd.R_alloc | apply Kd.R_drewN | apply Kd.R_drew)); exact HO_7.out))) (Kd.R_lt (by (with_reducible repeat (first | apply Kd.R_alloc | apply Kd.R_drewN | apply Kd.R_drew)); exact HO394.out))) (Kd.R_lt (by (with_reducible repeat (first | apply Kd.R_alloc | apply Kd.R_drewN | apply Kd.R_drew)); exact HO397.out))) (below_size (by repeat (first | (with_reducible first | exact HB.out | apply below_alloc | apply pw_below_drewN | apply below_drew1) | exact HB.out)))); have n5_ := Aside0.mk (below_step (by repeat (first | (with_reducible first | exact HB.out | apply below_alloc | apply pw_below_drewN | apply below_drew1) | exact HB.out)) hb); clear HO_6; clear HO_7; clear HO394; clear HO397; clear HB; have HO_6 := n0_; have HO_7 := n1_; have HO394 := n2_; have HO397 := n3_; have HO400 := n4_; have HB := n5_; clear n0_ n1_ n2_ n3_ n4_ n5_; (try clear hb); (try clear hb2); (try clear hk); (try clear hi); (try clear ho0); obtain ⟨Ao61, co61, eo61⟩ := Kd.R_slice HO_6.out; subst eo61; have p401 : 0 ≤ (x9_1 : Int) := of_decide_eq_true (by first | (with_reducible assumption) | assumption); have q401 : x9_1 < (x6_2.length : Int) := of_decide_eq_true (by first | (with_reducible assumption) | assumption); obtain ⟨ad401, e401, hx401_0⟩ := Kd.at_int (Kd.R_reads' HO_6.out).2.2 x9_1 p401 q401; cases e401; replace p401 := eq_true p401; replace q401 := eq_true q401; have p54 : 0 ≤ (x9_1 : Int) := of_decide_eq_true (by first | (with_reducible assumption) | assumption); have q54 : (x9_1 : Int) < ((x6_2.length : Int) : Int) := of_decide_eq_true (by first | (with_reducible assumption) | assumption); obtain ⟨go54, co54, eo54, gb54, gl54, cl54, HG54⟩ := Kd.R_form HO_6.out (by omega); (first | cases eo54 | (injection eo54 with ea_ en_ ec_; (first | subst ea_ | (injection ea_ with ea_; subst ea_)); subst ec_; clear en_)); have GB54 := Aside0.mk gb54; have GG54 := Aside0.mk HG54; clear gb54 gl54 HG54; (first | simp only [add_plain] at hx401_0 | skip); obtain ⟨hx54_0, hf54_0⟩ := Kd.R_celln 0 HO_6.out (x9_1 : Int) p54 q54; replace p54 := eq_true p54; replace q54 := eq_true q54; have n_ := Aside0.mk (Kd.R_mono (ok' := (fun k_ => some k_ ≠ (.slice (some ad377) x7_2.length co55 : Value).ownBlock ∧ some k_ ≠ (.slice Ao57 t392.length co57 : Value).ownBlock ∧ some k_ ≠ (.slice Ao59 t395.length co59 : Value).ownBlock ∧ some k_ ≠ (v399 : Value).ownBlock)) HO_6.out (fun k_ hk => ⟨hk.1.1.1, ⟨hk.1.1.2, ⟨hk.1.2, hk.2⟩⟩⟩)); clear HO_6; have HO_6 := n_; clear n_; obtain ⟨hy62_, hz62_⟩ := Kd.R_celln 0 HO_6.out (x9_1 : Int) (of_decide_eq_true (by first | (with_reducible assumption) | assumption)) (of_decide_eq_true (by first | (with_reducible assumption) | assumption)); have HP62 := Kd.R_putg HO_6.out (x9_1 : Int) (wrap64 ((rd x6_2 x9_1) + (ji48)))) | ((with_reducible refine gate_store (t := 3) (p := 76) rfl ?_); refine store_event (t := 3) (p := 76) (v := ?vo_w63) (w1 := (w60.setCell ⟨go54, (x9_1 : Int).toNat, none⟩ (.int .i64 (wrap64 ((rd x6_2 x9_1) + (ji48)))))) ?hg ?ho ?hn ?hr ?_; (case ho => rfl); (case hg => rfl); (case hn => rfl); (case hr => first | (go_simp; done) | (go_simp; rfl)); intro w63 hw; have hg : w60.grownBy w63 (some go54) := (by rw [hw]; exact HP62.2); have hp_ : Kd.R (Kd.int .i64) 3 w63 w.heap.size (fun k_ => some k_ ≠ (.slice (some ad377) x7_2.length co55 : Value).ownBlock ∧ some k_ ≠ (.slice Ao57 t392.length co57 : Value).ownBlock ∧ some k_ ≠ (.slice Ao59 t395.length co59 : Value).ownBlock ∧ some k_ ≠ (v399 : Value).ownBlock) (.slice (some ⟨go54, 0, none⟩) x6_2.length co61) y402 := (by rw [hw, Ny402.out]; exact HP62.1); clear HP62; have n0_ := Aside0.mk (hp_); have n1_ := Aside0.mk (Kd.R_after (v := (.slice (some ⟨go54, 0, none⟩) x6_2.length co61)) (v1 := (.slice (some ⟨go54, 0, none⟩) x6_2.length co61)) (ok := (fun k_ => some k_ ≠ (.slice Ao57 t392.length co57 : Value).ownBlock ∧ some k_ ≠ (.slice Ao59 t395.length co59 : Value).ownBlock ∧ some k_ ≠ (v399 : Value).ownBlock)) (by (with_reducible repeat (first | apply Kd.R_alloc | apply Kd.R_drewN | apply Kd.R_drew)); exact Kd.R_mono HO_7.out (fun _ hk => ⟨⟨hk.1.1.2, ⟨hk.1.2, hk.2⟩⟩, hk.1.1.1⟩)) hg (.inl rfl)); have n2_ := Aside0.mk (Kd.R_after (v := (.slice (some ⟨go54, 0, none⟩) x6_2.length co61)) (v1 := (.slice (some ⟨go54, 0, none⟩) x6_2.length co61)) (ok := (fun k_ => some k_ ≠ (.slice (some ad377) x7_2.length co55 : Value).ownBlock ∧ some k_ ≠ (.slice Ao59 t395.length co59 : Value).ownBlock ∧ some k_ ≠ (v399 : Value).ownBlock)) (by (with_reducible repeat (first | apply Kd.R_alloc | apply Kd.R_drewN | apply Kd.R_drew)); exact Kd.R_mono HO394.out (fun _ hk => ⟨⟨hk.1.1.2, ⟨hk.1.2, hk.2⟩⟩, hk.1.1.1.2⟩)) hg (.inl rfl)); have n3_ := Aside0.mk (Kd.R_after (v := (.slice (some ⟨go54, 0, none⟩) x6_2.length co61)) (v1 := (.slice (some ⟨go54, 0, none⟩) x6_2.length co61)) (ok := (fun k_ => some k_ ≠ (.slice (some ad377) x7_2.length co55 : Value).ownBlock ∧ some k_ ≠ (.slice Ao57 t392.length co57 : Value).ownBlock ∧ some k_ ≠ (v399 : Value).ownBlock)) (by (with_reducible repeat (first | apply Kd.R_alloc | apply Kd.R_drewN | apply Kd.R_drew)); exact Kd.R_mono HO397.out (fun _ hk => ⟨⟨hk.1.1.2, ⟨hk.1.2, hk.2⟩⟩, hk.1.1.1.2⟩)) hg (.inl rfl)); have n4_ := Aside0.mk (Kd.R_after (v := (.slice (some ⟨go54, 0, none⟩) x6_2.length co61)) (v1 := (.slice (some ⟨go54, 0, none⟩) x6_2.length co61)) (ok := (fun k_ => some k_ ≠ (.slice (some ad377) x7_2.length co55 : Value).ownBlock ∧ some k_ ≠ (.slice Ao57 t392.length co57 : Value).ownBlock ∧ some k_ ≠ (.slice Ao59 t395.length co59 : Value).ownBlock)) (by (with_reducible repeat (first | apply Kd.R_alloc | apply Kd.R_drewN | apply Kd.R_drew)); exact Kd.R_mono HO400.out (fun _ hk => ⟨⟨hk.1.1.2, ⟨hk.1.2, hk.2⟩⟩, hk.1.1.1.2⟩)) hg (.inl rfl)); have n5_ := Aside0.mk ((by rw [hw]; exact below_set (HB.out) GB54.out : Below w.heap.size w w63)); clear HO_6; clear HO_7; clear HO394; clear HO397; clear HO400; clear HB; have HO_6 := n0_; have HO_7 := n1_; have HO394 := n2_; have HO397 := n3_; have HO400 := n4_; have HB := n5_; clear n0_ n1_ n2_ n3_ n4_ n5_; clear hg hw hp_))
                                      go_roundg k2
                                      case measure => have := HK1.out; have := HK2.out; omega
                                      case rel => exact ⟨(y402), (t398), H', ⟨by have := HK1.out; have := HK2.out; omega⟩, ⟨by (with_reducible repeat (first | apply Kd.R_alloc | apply Kd.R_drewN | apply Kd.R_drew)); exact Kd.R_mono HO_6.out (fun _ hk => hk.2.2.2)⟩, ⟨by (with_reducible repeat (first | apply Kd.R_alloc | apply Kd.R_drewN | apply Kd.R_drew)); exact Kd.R_mono HO400.out (fun _ hk => hk.2)⟩, ⟨by repeat (first | (with_reducible first | exact HB.out | apply below_alloc | apply pw_below_drewN | apply below_drew1) | exact HB.out)⟩⟩
                                    · rw [if_neg c53] at H
                                      exact absurd H (by simp)
                                  · rw [if_neg c52] at H
                                    exact absurd H (by simp)
                              · rw [if_neg c46] at H
                                exact absurd H (by simp)
                          · rw [if_neg c24] at H
                            exact absurd H (by simp)
                        · rw [if_neg c23] at H
                          exact absurd H (by simp)
                      · rw [if_neg c21] at H
                        have c21b0 : decide (0 ≤ t376) = false := decide_eq_false c21
                        clear c21
                        have H' := Aside0.mk H
                        clear H
                        obtain ⟨Ao64, co64, eo64⟩ := Kd.R_slice HO_7.out
                        subst eo64
                        go_wp2_with (first | ((with_reducible refine gate_callee (f := 27) rfl ?_); refine goesL_ (some 35) rfl rfl Try.func27 (by kernel_rfl) rfl #[.slice Ao64 x7_2.length co64, .slice A1 l1.length c1] rfl (by (try simp only [List.map_toArray, List.map_cons, List.map_nil]); first | done | rfl | (simp only [List.length_drop, List.length_take]; rfl)) ?_; (with_reducible refine (latchkeyref01_Cmp.calls k2 _ _ x7_2 _ _ l1 t376 _ ?side1 ?side2 ?side3 ?side4 A20.out).mono ?_); (case side1 => repeat (first | exact (Kd.R_reads' HO_7.out).2.2 | (with_reducible refine Kd.C_alloc ?_ _) | (with_reducible refine Kd.C_drewN ?_ _) | (with_reducible refine Kd.C_drew ?_))); (case side2 => exact (Kd.R_reads' HO_7.out).2.1); (case side3 => repeat (first | exact (Kd.C_below HR1.out HB.out) | (with_reducible refine Kd.C_alloc ?_ _) | (with_reducible refine Kd.C_drewN ?_ _) | (with_reducible refine Kd.C_drew ?_))); (case side4 => exact HC1.out); rintro e w' ⟨rfl, ⟨nd, rfl⟩⟩; refine ⟨_, rfl, ?_⟩))
                        go_roundg k2
                        case measure => have := HK1.out; have := HK2.out; omega
                        case rel => exact ⟨(x6_2), (x7_2), (wrap64 (x9_1 - 1)), (by first | rfl | (simp; done) | (simp [*]; done)), H', ⟨by have := HK1.out; have := HK2.out; omega⟩, ⟨by (with_reducible repeat (first | apply Kd.R_alloc | apply Kd.R_drewN | apply Kd.R_drew)); exact HO_6.out⟩, ⟨by (with_reducible repeat (first | apply Kd.R_alloc | apply Kd.R_drewN | apply Kd.R_drew)); exact HO_7.out⟩, ⟨by repeat (first | (with_reducible first | exact HB.out | apply below_alloc | apply pw_below_drewN | apply below_drew1) | exact HB.out)⟩⟩
                · rw [if_neg c12] at H
                  exact absurd H (by simp)
              · rw [if_neg c11] at H
                exact absurd H (by simp)
            · rw [if_neg c10] at H
              exact absurd H (by simp)
          · rw [if_neg c9] at H
            have c9b0 : decide (0 ≤ x9_1) = false := decide_eq_false c9
            clear c9
            replace H := Option.bind_eq_some_iff.mp H
            obtain ⟨t363, A650, H⟩ := H
            replace H : (some (t363, x7_1)) = some (r1, r2) := H
            have A65 := Aside0.mk A650
            clear A650
            simp only [Option.some.injEq, Prod.mk.injEq] at H
            obtain ⟨rfl, rfl⟩ := H
            obtain ⟨Ao66, co66, eo66⟩ := Kd.R_slice HO_6.out
            subst eo66
            go_wp2_with (first | ((with_reducible refine gate_callee (f := 45) rfl ?_); refine goesL_ (some 78) rfl rfl Try.func45 (by kernel_rfl) rfl #[.slice Ao66 x6_1.length co66] rfl (by (try simp only [List.map_toArray, List.map_cons, List.map_nil]); first | done | rfl | (simp only [List.length_drop, List.length_take]; rfl)) ?_; (with_reducible refine (latchkeyref01_trim.calls k1 (fun k_ => some k_ = (.slice Ao66 x6_1.length co66 : Value).ownBlock) (.slice Ao66 x6_1.length co66) x6_1 t363 w _ ?side1 ?side2 A65.out).mono ?_); (case side1 => repeat (first | (with_reducible first | exact HB.out | apply below_alloc | apply pw_below_drewN | apply below_drew1) | exact HB.out)); (case side2 => exact Kd.R_tight rfl HO_6.out); rintro e w67 ⟨v364, rfl, ho0, hb, hkp⟩; refine ⟨_, rfl, ?_⟩; have n0_ := Aside0.mk (Kd.R_mono (ok' := fun k_ => some k_ ≠ (v364 : Value).ownBlock) (Kd.R_keptB (HO_7.out) hkp (fun k_ hk_ hs_ => (hk_) hs_)) (fun k_ hk_ => fun e_ => Or.elim (ho0.1 k_ e_.symm) (fun hs_ => hk_.2.1 hs_) (fun hn_ => Nat.not_le.2 hk_.2.2 hn_))); have n1_ := Aside0.mk (Kd.R_mono (ok' := fun k_ => some k_ ≠ (u7 : Value).ownBlock) ho0 (fun k_ hk_ => Or.elim hk_ (fun hs_ => fun e_ => (((HO_7.out).1 k_ e_.symm)) hs_) (fun hn_ => (Kd.fresh' (Kd.R_lt (by (with_reducible repeat (first | apply Kd.R_alloc | apply Kd.R_drewN | apply Kd.R_drew)); exact HO_7.out)) k_ hn_)))); have n2_ := Aside0.mk (hb); clear HO_7; clear HB; clear HO_6; have HO_7 := n0_; have HO365 := n1_; have HB := n2_; clear n0_ n1_ n2_; (try clear hb); (try clear hkp); (try clear ho0)))
            go_ret2
            exact ⟨_, _, by first | rfl | (simp [errW_none, errW_some] <;> rfl) | (simp [*, errW_none, errW_some] <;> rfl), by (with_reducible repeat (first | apply Kd.R_alloc | apply Kd.R_drewN | apply Kd.R_drew)); exact HO365.out, by (with_reducible repeat (first | apply Kd.R_alloc | apply Kd.R_drewN | apply Kd.R_drew)); exact HO_7.out, by repeat (first | (with_reducible first | exact HB.out | apply below_alloc | apply pw_below_drewN | apply below_drew1) | exact HB.out)⟩
    · rw [if_neg c4] at H
      exact absurd H (by simp)
  · rw [if_neg c3] at H
    exact absurd H (by simp)

end Go.Proofs.Ytbnbofflnpppfaa.B
