/- Written by xp.py, a program of this session, over the print of the kit: what it says is checked by its build. -/
import Derived.Test.YtbnbofflnpppfaaBx0
namespace Go.Proofs.Ytbnbofflnpppfaa.B
open Go.RowKit Go.Proofs.YtbnbofflnpppfaaW.PrintWords Go.Proofs.YtbnbofflnpppfaaW.PrintLast Go.Proofs.YtbnbofflnpppfaaW.PrintMore
attribute [local go_sem] max2_int min2_int max_two min_two max_three min_three max_four min_four   -- for this text's walks alone
attribute [local go_sem] run_Add64 run_Add64_0 run_Sub64 run_Sub64_0
set_option linter.unusedVariables false
set_option linter.unusedSimpArgs false

/-! ### latchkeyref01_Bytes: function 36 -/
def latchkeyref01_Bytes.l0 : Nat → List Int → Int → List Int → Int → Option (List Int)
  | 0, _, _, _, _ => none
  | k + 1, x0, x1, x5, x6 => if x6 < x1 then (if (wrap64 (Int.tdiv x6 2)) < (x0.length : Int) then (if 0 ≤ (wrap64 (Int.tdiv x6 2)) then (if (Int.tmod x6 2) = 1 then (if 0 ≤ (wrap64 ((wrap64 (x1 - 1)) - x6)) then (if (wrap64 ((wrap64 (x1 - 1)) - x6)) < (x5.length : Int) then (latchkeyref01_Bytes.l0 k x0 x1 (x5.set ((wrap64 ((wrap64 (x1 - 1)) - x6)) : Int).toNat ((Int.tmod (wrap64 (Int.tdiv (rd x0 (wrap64 (Int.tdiv x6 2))) 256)) 256) % 256)) (wrap64 (x6 + 1))) else (none)) else (none)) else (if 0 ≤ (wrap64 ((wrap64 (x1 - 1)) - x6)) then (if (wrap64 ((wrap64 (x1 - 1)) - x6)) < (x5.length : Int) then (latchkeyref01_Bytes.l0 k x0 x1 (x5.set ((wrap64 ((wrap64 (x1 - 1)) - x6)) : Int).toNat ((Int.tmod (rd x0 (wrap64 (Int.tdiv x6 2))) 256) % 256)) (wrap64 (x6 + 1))) else (none)) else (none))) else (none)) else (if (Int.tmod x6 2) = 1 then (if 0 ≤ (wrap64 ((wrap64 (x1 - 1)) - x6)) then (if (wrap64 ((wrap64 (x1 - 1)) - x6)) < (x5.length : Int) then (latchkeyref01_Bytes.l0 k x0 x1 (x5.set ((wrap64 ((wrap64 (x1 - 1)) - x6)) : Int).toNat (((0 : Int) / 256) % 256)) (wrap64 (x6 + 1))) else (none)) else (none)) else (if 0 ≤ (wrap64 ((wrap64 (x1 - 1)) - x6)) then (if (wrap64 ((wrap64 (x1 - 1)) - x6)) < (x5.length : Int) then (latchkeyref01_Bytes.l0 k x0 x1 (x5.set ((wrap64 ((wrap64 (x1 - 1)) - x6)) : Int).toNat ((0 : Int) % 256)) (wrap64 (x6 + 1))) else (none)) else (none)))) else (some x5)
def latchkeyref01_Bytes.f (k : Nat) (l0 : List Int) (a1 : Int) : Option (List Int) := if 0 ≤ a1 then (if (a1 : Int).toNat ≤ 281474976710656 then (latchkeyref01_Bytes.l0 k l0 a1 (List.replicate (a1 : Int).toNat 0) 0) else (none)) else (none)
theorem latchkeyref01_Bytes.mono_l : ∀ k, (∀ y0 y1 y2 y3, LeO (latchkeyref01_Bytes.l0 k y0 y1 y2 y3) (latchkeyref01_Bytes.l0 (k + 1) y0 y1 y2 y3))
  | 0 => fun _ _ _ _ r h => by simp [latchkeyref01_Bytes.l0] at h
  | k + 1 => by
    have ih0 := latchkeyref01_Bytes.mono_l k
    · intro y0 y1 y2 y3
      unfold latchkeyref01_Bytes.l0
      repeat' first
      | (with_reducible exact ih0 _ _ _ _)
      | (with_reducible exact LeO.refl _)
      | (with_reducible exact LeO.none _)
      | (with_reducible refine LeO.ite ?_ ?_)
      | (with_reducible refine LeO.bind ?_ (fun _ => ?_))
      | exact ih0 _ _ _ _
      | exact LeO.none _
      | refine LeO.ite ?_ ?_
      | refine LeO.bind ?_ (fun _ => ?_)
theorem latchkeyref01_Bytes.mono : ∀ a0 a1 k, LeO (latchkeyref01_Bytes.f k a0 a1) (latchkeyref01_Bytes.f (k + 1) a0 a1) := by
  intro a0 a1 k
  have ih0 := latchkeyref01_Bytes.mono_l k
  unfold latchkeyref01_Bytes.f
  repeat' first
      | (with_reducible exact ih0 _ _ _ _)
      | (with_reducible exact LeO.refl _)
      | (with_reducible exact LeO.none _)
      | (with_reducible refine LeO.ite ?_ ?_)
      | (with_reducible refine LeO.bind ?_ (fun _ => ?_))
      | exact ih0 _ _ _ _
      | exact LeO.none _
      | refine LeO.ite ?_ ?_
      | refine LeO.bind ?_ (fun _ => ?_)
set_option maxHeartbeats 8000000 in
set_option maxRecDepth 100000 in
theorem latchkeyref01_Bytes.calls (k : Nat) (A0 : Option Addr) (c0 : Nat) (l0 : List Int) (a1 : Int) (r : List Int) (w : World) (hr0 : Kd.C (Kd.int .i64) w A0 l0.length l0) (hc0 : l0.length ≤ c0) (h : latchkeyref01_Bytes.f k l0 a1 = some r) :
    Calls Try.prog 36 #[.slice A0 l0.length c0, .int .i64 a1] w fun e w' => ∃ v0_ : Value, e = .returned (v0_) ∧ Kd.R (Kd.int .u8) 5 w' w.heap.size (fun _ => True) v0_ r ∧ Below w.heap.size w w' := by
  have HR0 := Aside0.mk hr0
  have HC0 := Aside0.mk hc0
  clear hr0 hc0
  have HB := Aside0.mk (Below.refl w.heap.size w)
  have H : (if 0 ≤ a1 then (if (a1 : Int).toNat ≤ 281474976710656 then (latchkeyref01_Bytes.l0 k l0 a1 (List.replicate (a1 : Int).toNat 0) 0) else (none)) else (none)) = some r := h
  clear h
  by_cases c3 : 0 ≤ a1
  · rw [if_pos c3] at H
    have c3b0 := eq_true c3
    have c3b1 : decide (0 ≤ a1) = true := decide_eq_true c3
    clear c3
    by_cases c4 : (a1 : Int).toNat ≤ 281474976710656
    · rw [if_pos c4] at H
      have c4b0 := eq_true c4
      have c4b1 : decide ((a1 : Int).toNat ≤ 281474976710656) = true := decide_eq_true c4
      clear c4
      obtain ⟨y730, hy730⟩ : ∃ y_ : List Int, y_ = (List.replicate (a1 : Int).toNat 0) := ⟨_, rfl⟩
      replace H : (latchkeyref01_Bytes.l0 k l0 a1 y730 0) = some r := by first | (rw [hy730]; with_reducible exact H) | (have H2_ := (Option.bind_some _ _).symm.trans H; rw [hy730]; with_reducible exact H2_) | (have H2_ := (Option.bind_some _ _).symm.trans H; with_reducible exact H2_) | with_reducible exact H | (rw [hy730]; exact H) | exact H
      have Ny730 := Aside0.mk hy730
      clear hy730
      have H' := Aside0.mk H
      clear H
      go_enter Try.func36, Try.ntmps36
      go_wp2_with (first | ((with_reducible refine gate_dst (N := 9) rfl ?_); refine Kd.R_make (Kd.int .u8) _ 5 rfl (N := 9) rfl 46 _ _ rfl a1 rfl rfl Try.underlying46 (.int .u8 0) 1 info5 rfl (by decide) (by omega) 0 (ok := fun _ => True) (okp := fun _ => True) rfl (fun _ hk => hk) trivial (of_decide_eq_true (by first | (with_reducible assumption) | assumption)) (Nat.le_trans (Nat.mul_le_mul_right _ (of_decide_eq_true (by first | (with_reducible assumption) | assumption) : a1.toNat ≤ 281474976710656)) (by omega)) (Below.refl _ _) (Nat.le_refl _) ?_; intro v731 w5 ho6 hb hg_ hnew_; clear hg_ hnew_; (first | rw [← Ny730.out] at ho6 | (simp only [Int.reduceToNat] at ho6; rw [← Ny730.out] at ho6)); have n0_ := Aside0.mk (Kd.R_lower ho6 (below_size (by repeat (first | (with_reducible first | exact HB.out | apply below_alloc | apply pw_below_drewN | apply below_drew1) | exact HB.out)))); have n1_ := Aside0.mk (below_step (by repeat (first | (with_reducible first | exact HB.out | apply below_alloc | apply pw_below_drewN | apply below_drew1) | exact HB.out)) hb); clear HB; have HO732 := n0_; have HB := n1_; clear n0_ n1_; clear hb ho6))
      go_loopg [6] k (fun kq v6 w' => ∃ (x5_1 : List Int) (x6_1 : Int), v6 = .int .i64 x6_1 ∧ Aside0 (latchkeyref01_Bytes.l0 kq l0 a1 x5_1 x6_1 = some r) ∧ Aside0 (kq ≤ k) ∧ Aside0 (Kd.R (Kd.int .u8) 5 w' w.heap.size (fun _ => True) v731 x5_1) ∧ Aside0 (Below w.heap.size w w'))
      case atStart => exact ⟨(y730), (0), (by first | rfl | (simp; done) | (simp [*]; done)), H', ⟨Nat.le_refl _⟩, ⟨by (with_reducible repeat (first | apply Kd.R_alloc | apply Kd.R_drewN | apply Kd.R_drew)); exact HO732.out⟩, ⟨by repeat (first | (with_reducible first | exact HB.out | apply below_alloc | apply pw_below_drewN | apply below_drew1) | exact HB.out)⟩⟩
      case round =>
        clear H'
        try clear p2
        try clear c3
        try clear c3b0
        try clear c3b1
        try clear c4
        try clear c4b0
        try clear c4b1
        obtain ⟨x5_1, x6_1, rfl, HA, HK1, HO_5, HB⟩ := hrel
        cases gk with
        | zero => exact absurd HA.out (by simp [latchkeyref01_Bytes.l0])
        | succ k1 =>
          have H := HA.out
          clear HA
          simp only [latchkeyref01_Bytes.l0] at H
          by_cases c7 : x6_1 < a1
          · rw [if_pos c7] at H
            have c7b0 : decide (x6_1 < a1) = true := decide_eq_true c7
            clear c7
            by_cases c8 : (wrap64 (Int.tdiv x6_1 2)) < (l0.length : Int)
            · rw [if_pos c8] at H
              have c8b0 : decide ((wrap64 (Int.tdiv x6_1 2)) < (l0.length : Int)) = true := decide_eq_true c8
              clear c8
              obtain ⟨ji9, hji9⟩ : ∃ j_ : Int, (wrap64 (Int.tdiv x6_1 2)) = j_ := ⟨_, rfl⟩
              replace H : (if 0 ≤ (ji9) then (if (Int.tmod x6_1 2) = 1 then (if 0 ≤ (wrap64 ((wrap64 (a1 - 1)) - x6_1)) then (if (wrap64 ((wrap64 (a1 - 1)) - x6_1)) < (x5_1.length : Int) then (latchkeyref01_Bytes.l0 k1 l0 a1 (x5_1.set ((wrap64 ((wrap64 (a1 - 1)) - x6_1)) : Int).toNat ((Int.tmod (wrap64 (Int.tdiv (rd l0 (ji9)) 256)) 256) % 256)) (wrap64 (x6_1 + 1))) else (none)) else (none)) else (if 0 ≤ (wrap64 ((wrap64 (a1 - 1)) - x6_1)) then (if (wrap64 ((wrap64 (a1 - 1)) - x6_1)) < (x5_1.length : Int) then (latchkeyref01_Bytes.l0 k1 l0 a1 (x5_1.set ((wrap64 ((wrap64 (a1 - 1)) - x6_1)) : Int).toNat ((Int.tmod (rd l0 (ji9)) 256) % 256)) (wrap64 (x6_1 + 1))) else (none)) else (none))) else (none)) = some r := by first | (rw [hji9] at H; exact H) | (simp only [hji9] at H ⊢; exact H)
              (try rw [hji9] at c8b0)
              have hji9w : (IntKind.i64.wrap (Int.tdiv x6_1 2)) = ji9 := (i64_w _).trans hji9
              by_cases c10 : 0 ≤ (ji9)
              · rw [if_pos c10] at H
                have c10b0 : decide (0 ≤ (ji9)) = true := decide_eq_true c10
                clear c10
                by_cases c11 : (Int.tmod x6_1 2) = 1
                · rw [if_pos c11] at H
                  have c11b0 : ((Int.tmod x6_1 2) == 1) = true := beq_iff_eq.mpr c11
                  have c11b1 : ((Int.tmod x6_1 2) != 1) = false := bne_eq_false_iff_eq.mpr c11
                  clear c11
                  obtain ⟨ji12, hji12⟩ : ∃ j_ : Int, (wrap64 ((wrap64 (a1 - 1)) - x6_1)) = j_ := ⟨_, rfl⟩
                  replace H : (if 0 ≤ (ji12) then (if (ji12) < (x5_1.length : Int) then (latchkeyref01_Bytes.l0 k1 l0 a1 (x5_1.set ((ji12) : Int).toNat ((Int.tmod (wrap64 (Int.tdiv (rd l0 (ji9)) 256)) 256) % 256)) (wrap64 (x6_1 + 1))) else (none)) else (none)) = some r := by first | (rw [hji12] at H; exact H) | (simp only [hji12] at H ⊢; exact H)
                  have hji12w : (IntKind.i64.wrap ((wrap64 (a1 - 1)) - x6_1)) = ji12 := (i64_w _).trans hji12
                  by_cases c13 : 0 ≤ (ji12)
                  · rw [if_pos c13] at H
                    have c13b0 : decide (0 ≤ (ji12)) = true := decide_eq_true c13
                    clear c13
                    by_cases c14 : (ji12) < (x5_1.length : Int)
                    · rw [if_pos c14] at H
                      have c14b0 : decide ((ji12) < (x5_1.length : Int)) = true := decide_eq_true c14
                      clear c14
                      obtain ⟨y734, hy734⟩ : ∃ y_ : List Int, y_ = (x5_1.set ((ji12) : Int).toNat ((Int.tmod (wrap64 (Int.tdiv (rd l0 (ji9)) 256)) 256) % 256)) := ⟨_, rfl⟩
                      replace H : (latchkeyref01_Bytes.l0 k1 l0 a1 y734 (wrap64 (x6_1 + 1))) = some r := by first | (rw [hy734]; with_reducible exact H) | (have H2_ := (Option.bind_some _ _).symm.trans H; rw [hy734]; with_reducible exact H2_) | (have H2_ := (Option.bind_some _ _).symm.trans H; with_reducible exact H2_) | with_reducible exact H | (rw [hy734]; exact H) | exact H
                      have Ny734 := Aside0.mk hy734
                      clear hy734
                      have H' := Aside0.mk H
                      clear H
                      have p733 : 0 ≤ ((ji9) : Int) := of_decide_eq_true (by first | (with_reducible assumption) | assumption)
                      have q733 : (ji9) < (l0.length : Int) := of_decide_eq_true (by first | (with_reducible assumption) | assumption)
                      obtain ⟨ad733, e733, hx733_0⟩ := Kd.at_int HR0.out (ji9) p733 q733
                      cases e733
                      replace hx733_0 := (HB.out.cell (World.block_lt_of_cell? w _ hx733_0)).trans hx733_0
                      replace p733 := eq_true p733
                      replace q733 := eq_true q733
                      have p15 : 0 ≤ ((ji12) : Int) := of_decide_eq_true (by first | (with_reducible assumption) | assumption)
                      have q15 : ((ji12) : Int) < ((x5_1.length : Int) : Int) := of_decide_eq_true (by first | (with_reducible assumption) | assumption)
                      obtain ⟨go15, co15, eo15, gb15, gl15, cl15, HG15⟩ := Kd.R_form HO_5.out (by omega)
                      (first | cases eo15 | (injection eo15 with ea_ en_ ec_; (first | subst ea_ | (injection ea_ with ea_; subst ea_)); subst ec_; clear en_))
                      have GB15 := Aside0.mk gb15
                      have GG15 := Aside0.mk HG15
                      clear gb15 gl15 HG15
                      obtain ⟨hx15_0, hf15_0⟩ := Kd.R_celln 0 HO_5.out ((ji12) : Int) p15 q15
                      replace p15 := eq_true p15
                      replace q15 := eq_true q15
                      have HP16 := Kd.R_putg HO_5.out ((ji12) : Int) ((Int.tmod (wrap64 (Int.tdiv (rd l0 (ji9)) 256)) 256) % 256)
                      go_wp2_with (first | ((with_reducible refine gate_store (t := 5) (p := 38) rfl ?_); refine store_event (t := 5) (p := 38) (v := ?vo_w17) (w1 := (wr.setCell ⟨go15, ((ji12) : Int).toNat, none⟩ (.int .u8 ((Int.tmod (wrap64 (Int.tdiv (rd l0 (ji9)) 256)) 256) % 256)))) ?hg ?ho ?hn ?hr ?_; (case ho => rfl); (case hg => rfl); (case hn => rfl); (case hr => first | (go_simp; done) | (go_simp; rfl)); intro w17 hw; have hg : wr.grownBy w17 (some go15) := (by rw [hw]; exact HP16.2); have hp_ : Kd.R (Kd.int .u8) 5 w17 w.heap.size (fun _ => True) (.slice (some ⟨go15, 0, none⟩) x5_1.length co15) y734 := (by rw [hw, Ny734.out]; exact HP16.1); clear HP16; have n0_ := Aside0.mk (hp_); have n1_ := Aside0.mk ((by rw [hw]; exact below_set (HB.out) GB15.out : Below w.heap.size w w17)); clear HO_5; clear HB; have HO_5 := n0_; have HB := n1_; clear n0_ n1_; clear hg hw hp_))
                      go_roundg k1
                      case measure => have := HK1.out; omega
                      case rel => exact ⟨(y734), (wrap64 (x6_1 + 1)), (by first | rfl | (simp; done) | (simp [*]; done)), H', ⟨by have := HK1.out; omega⟩, ⟨by (with_reducible repeat (first | apply Kd.R_alloc | apply Kd.R_drewN | apply Kd.R_drew)); exact HO_5.out⟩, ⟨by repeat (first | (with_reducible first | exact HB.out | apply below_alloc | apply pw_below_drewN | apply below_drew1) | exact HB.out)⟩⟩
                    · rw [if_neg c14] at H
                      exact absurd H (by simp)
                  · rw [if_neg c13] at H
                    exact absurd H (by simp)
                · rw [if_neg c11] at H
                  have c11b0 : ((Int.tmod x6_1 2) == 1) = false := beq_eq_false_iff_ne.mpr c11
                  have c11b1 : ((Int.tmod x6_1 2) != 1) = true := bne_iff_ne.mpr c11
                  obtain ⟨ji18, hji18⟩ : ∃ j_ : Int, (wrap64 ((wrap64 (a1 - 1)) - x6_1)) = j_ := ⟨_, rfl⟩
                  (try (have hji18eji12 := hji18; rw [hji12] at hji18eji12))
                  replace H : (if 0 ≤ (ji18) then (if (ji18) < (x5_1.length : Int) then (latchkeyref01_Bytes.l0 k1 l0 a1 (x5_1.set ((ji18) : Int).toNat ((Int.tmod (rd l0 (ji9)) 256) % 256)) (wrap64 (x6_1 + 1))) else (none)) else (none)) = some r := by first | (rw [hji18] at H; exact H) | (simp only [hji18] at H ⊢; exact H)
                  have hji18w : (IntKind.i64.wrap ((wrap64 (a1 - 1)) - x6_1)) = ji18 := (i64_w _).trans hji18
                  by_cases c19 : 0 ≤ (ji18)
                  · rw [if_pos c19] at H
                    have c19b0 : decide (0 ≤ (ji18)) = true := decide_eq_true c19
                    clear c19
                    by_cases c20 : (ji18) < (x5_1.length : Int)
                    · rw [if_pos c20] at H
                      have c20b0 : decide ((ji18) < (x5_1.length : Int)) = true := decide_eq_true c20
                      clear c20
                      obtain ⟨y735, hy735⟩ : ∃ y_ : List Int, y_ = (x5_1.set ((ji18) : Int).toNat ((Int.tmod (rd l0 (ji9)) 256) % 256)) := ⟨_, rfl⟩
                      replace H : (latchkeyref01_Bytes.l0 k1 l0 a1 y735 (wrap64 (x6_1 + 1))) = some r := by first | (rw [hy735]; with_reducible exact H) | (have H2_ := (Option.bind_some _ _).symm.trans H; rw [hy735]; with_reducible exact H2_) | (have H2_ := (Option.bind_some _ _).symm.trans H; with_reducible exact H2_) | with_reducible exact H | (rw [hy735]; exact H) | exact H
                      have Ny735 := Aside0.mk hy735
                      clear hy735
                      have H' := Aside0.mk H
                      clear H
                      have p733 : 0 ≤ ((ji9) : Int) := of_decide_eq_true (by first | (with_reducible assumption) | assumption)
                      have q733 : (ji9) < (l0.length : Int) := of_decide_eq_true (by first | (with_reducible assumption) | assumption)
                      obtain ⟨ad733, e733, hx733_0⟩ := Kd.at_int HR0.out (ji9) p733 q733
                      cases e733
                      replace hx733_0 := (HB.out.cell (World.block_lt_of_cell? w _ hx733_0)).trans hx733_0
                      replace p733 := eq_true p733
                      replace q733 := eq_true q733
                      have p21 : 0 ≤ ((ji18) : Int) := of_decide_eq_true (by first | (with_reducible assumption) | assumption)
                      have q21 : ((ji18) : Int) < ((x5_1.length : Int) : Int) := of_decide_eq_true (by first | (with_reducible assumption) | assumption)
                      obtain ⟨go21, co21, eo21, gb21, gl21, cl21, HG21⟩ := Kd.R_form HO_5.out (by omega)
                      (first | cases eo21 | (injection eo21 with ea_ en_ ec_; (first | subst ea_ | (injection ea_ with ea_; subst ea_)); subst ec_; clear en_))
                      have GB21 := Aside0.mk gb21
                      have GG21 := Aside0.mk HG21
                      clear gb21 gl21 HG21
                      obtain ⟨hx21_0, hf21_0⟩ := Kd.R_celln 0 HO_5.out ((ji18) : Int) p21 q21
                      replace p21 := eq_true p21
                      replace q21 := eq_true q21
                      have HP22 := Kd.R_putg HO_5.out ((ji18) : Int) ((Int.tmod (rd l0 (ji9)) 256) % 256)
                      go_wp2_with (first | ((with_reducible refine gate_store (t := 5) (p := 38) rfl ?_); refine store_event (t := 5) (p := 38) (v := ?vo_w23) (w1 := (wr.setCell ⟨go21, ((ji18) : Int).toNat, none⟩ (.int .u8 ((Int.tmod (rd l0 (ji9)) 256) % 256)))) ?hg ?ho ?hn ?hr ?_; (case ho => rfl); (case hg => rfl); (case hn => rfl); (case hr => first | (go_simp; done) | (go_simp; rfl)); intro w23 hw; have hg : wr.grownBy w23 (some go21) := (by rw [hw]; exact HP22.2); have hp_ : Kd.R (Kd.int .u8) 5 w23 w.heap.size (fun _ => True) (.slice (some ⟨go21, 0, none⟩) x5_1.length co21) y735 := (by rw [hw, Ny735.out]; exact HP22.1); clear HP22; have n0_ := Aside0.mk (hp_); have n1_ := Aside0.mk ((by rw [hw]; exact below_set (HB.out) GB21.out : Below w.heap.size w w23)); clear HO_5; clear HB; have HO_5 := n0_; have HB := n1_; clear n0_ n1_; clear hg hw hp_))
                      go_roundg k1
                      case measure => have := HK1.out; omega
                      case rel => exact ⟨(y735), (wrap64 (x6_1 + 1)), (by first | rfl | (simp; done) | (simp [*]; done)), H', ⟨by have := HK1.out; omega⟩, ⟨by (with_reducible repeat (first | apply Kd.R_alloc | apply Kd.R_drewN | apply Kd.R_drew)); exact HO_5.out⟩, ⟨by repeat (first | (with_reducible first | exact HB.out | apply below_alloc | apply pw_below_drewN | apply below_drew1) | exact HB.out)⟩⟩
                    · rw [if_neg c20] at H
                      exact absurd H (by simp)
                  · rw [if_neg c19] at H
                    exact absurd H (by simp)
              · rw [if_neg c10] at H
                exact absurd H (by simp)
            · rw [if_neg c8] at H
              have c8b0 : decide ((wrap64 (Int.tdiv x6_1 2)) < (l0.length : Int)) = false := decide_eq_false c8
              clear c8
              by_cases c24 : (Int.tmod x6_1 2) = 1
              · rw [if_pos c24] at H
                have c24b0 : ((Int.tmod x6_1 2) == 1) = true := beq_iff_eq.mpr c24
                have c24b1 : ((Int.tmod x6_1 2) != 1) = false := bne_eq_false_iff_eq.mpr c24
                clear c24
                obtain ⟨ji25, hji25⟩ : ∃ j_ : Int, (wrap64 ((wrap64 (a1 - 1)) - x6_1)) = j_ := ⟨_, rfl⟩
                (try (have hji25eji12 := hji25; rw [hji12] at hji25eji12))
                (try (have hji25eji18 := hji25; rw [hji18] at hji25eji18))
                replace H : (if 0 ≤ (ji25) then (if (ji25) < (x5_1.length : Int) then (latchkeyref01_Bytes.l0 k1 l0 a1 (x5_1.set ((ji25) : Int).toNat (((0 : Int) / 256) % 256)) (wrap64 (x6_1 + 1))) else (none)) else (none)) = some r := by first | (rw [hji25] at H; exact H) | (simp only [hji25] at H ⊢; exact H)
                have hji25w : (IntKind.i64.wrap ((wrap64 (a1 - 1)) - x6_1)) = ji25 := (i64_w _).trans hji25
                by_cases c26 : 0 ≤ (ji25)
                · rw [if_pos c26] at H
                  have c26b0 : decide (0 ≤ (ji25)) = true := decide_eq_true c26
                  clear c26
                  by_cases c27 : (ji25) < (x5_1.length : Int)
                  · rw [if_pos c27] at H
                    have c27b0 : decide ((ji25) < (x5_1.length : Int)) = true := decide_eq_true c27
                    clear c27
                    obtain ⟨y736, hy736⟩ : ∃ y_ : List Int, y_ = (x5_1.set ((ji25) : Int).toNat (((0 : Int) / 256) % 256)) := ⟨_, rfl⟩
                    replace H : (latchkeyref01_Bytes.l0 k1 l0 a1 y736 (wrap64 (x6_1 + 1))) = some r := by first | (rw [hy736]; with_reducible exact H) | (have H2_ := (Option.bind_some _ _).symm.trans H; rw [hy736]; with_reducible exact H2_) | (have H2_ := (Option.bind_some _ _).symm.trans H; with_reducible exact H2_) | with_reducible exact H | (rw [hy736]; exact H) | exact H
                    have Ny736 := Aside0.mk hy736
                    clear hy736
                    have H' := Aside0.mk H
                    clear H
                    have p28 : 0 ≤ ((ji25) : Int) := of_decide_eq_true (by first | (with_reducible assumption) | assumption)
                    have q28 : ((ji25) : Int) < ((x5_1.length : Int) : Int) := of_decide_eq_true (by first | (with_reducible assumption) | assumption)
                    obtain ⟨go28, co28, eo28, gb28, gl28, cl28, HG28⟩ := Kd.R_form HO_5.out (by omega)
                    (first | cases eo28 | (injection eo28 with ea_ en_ ec_; (first | subst ea_ | (injection ea_ with ea_; subst ea_)); subst ec_; clear en_))
                    have GB28 := Aside0.mk gb28
                    have GG28 := Aside0.mk HG28
                    clear gb28 gl28 HG28
                    obtain ⟨hx28_0, hf28_0⟩ := Kd.R_celln 0 HO_5.out ((ji25) : Int) p28 q28
                    replace p28 := eq_true p28
                    replace q28 := eq_true q28
                    have HP29 := Kd.R_putg HO_5.out ((ji25) : Int) (((0 : Int) / 256) % 256)
                    go_wp2_with (first | ((with_reducible refine gate_store (t := 5) (p := 38) rfl ?_); refine store_event (t := 5) (p := 38) (v := ?vo_w30) (w1 := (wr.setCell ⟨go28, ((ji25) : Int).toNat, none⟩ (.int .u8 (((0 : Int) / 256) % 256)))) ?hg ?ho ?hn ?hr ?_; (case ho => rfl); (case hg => rfl); (case hn => rfl); (case hr => first | (go_simp; done) | (go_simp; rfl)); intro w30 hw; have hg : wr.grownBy w30 (some go28) := (by rw [hw]; exact HP29.2); have hp_ : Kd.R (Kd.int .u8) 5 w30 w.heap.size (fun _ => True) (.slice (some ⟨go28, 0, none⟩) x5_1.length co28) y736 := (by rw [hw, Ny736.out]; exact HP29.1); clear HP29; have n0_ := Aside0.mk (hp_); have n1_ := Aside0.mk ((by rw [hw]; exact below_set (HB.out) GB28.out : Below w.heap.size w w30)); clear HO_5; clear HB; have HO_5 := n0_; have HB := n1_; clear n0_ n1_; clear hg hw hp_))
                    go_roundg k1
                    case measure => have := HK1.out; omega
                    case rel => exact ⟨(y736), (wrap64 (x6_1 + 1)), (by first | rfl | (simp; done) | (simp [*]; done)), H', ⟨by have := HK1.out; omega⟩, ⟨by (with_reducible repeat (first | apply Kd.R_alloc | apply Kd.R_drewN | apply Kd.R_drew)); exact HO_5.out⟩, ⟨by repeat (first | (with_reducible first | exact HB.out | apply below_alloc | apply pw_below_drewN | apply below_drew1) | exact HB.out)⟩⟩
                  · rw [if_neg c27] at H
                    exact absurd H (by simp)
                · rw [if_neg c26] at H
                  exact absurd H (by simp)
              · rw [if_neg c24] at H
                have c24b0 : ((Int.tmod x6_1 2) == 1) = false := beq_eq_false_iff_ne.mpr c24
                have c24b1 : ((Int.tmod x6_1 2) != 1) = true := bne_iff_ne.mpr c24
                obtain ⟨ji31, hji31⟩ : ∃ j_ : Int, (wrap64 ((wrap64 (a1 - 1)) - x6_1)) = j_ := ⟨_, rfl⟩
                (try (have hji31eji12 := hji31; rw [hji12] at hji31eji12))
                (try (have hji31eji18 := hji31; rw [hji18] at hji31eji18))
                (try (have hji31eji25 := hji31; rw [hji25] at hji31eji25))
                replace H : (if 0 ≤ (ji31) then (if (ji31) < (x5_1.length : Int) then (latchkeyref01_Bytes.l0 k1 l0 a1 (x5_1.set ((ji31) : Int).toNat ((0 : Int) % 256)) (wrap64 (x6_1 + 1))) else (none)) else (none)) = some r := by first | (rw [hji31] at H; exact H) | (simp only [hji31] at H ⊢; exact H)
                have hji31w : (IntKind.i64.wrap ((wrap64 (a1 - 1)) - x6_1)) = ji31 := (i64_w _).trans hji31
                by_cases c32 : 0 ≤ (ji31)
                · rw [if_pos c32] at H
                  have c32b0 : decide (0 ≤ (ji31)) = true := decide_eq_true c32
                  clear c32
                  by_cases c33 : (ji31) < (x5_1.length : Int)
                  · rw [if_pos c33] at H
                    have c33b0 : decide ((ji31) < (x5_1.length : Int)) = true := decide_eq_true c33
                    clear c33
                    obtain ⟨y737, hy737⟩ : ∃ y_ : List Int, y_ = (x5_1.set ((ji31) : Int).toNat ((0 : Int) % 256)) := ⟨_, rfl⟩
                    replace H : (latchkeyref01_Bytes.l0 k1 l0 a1 y737 (wrap64 (x6_1 + 1))) = some r := by first | (rw [hy737]; with_reducible exact H) | (have H2_ := (Option.bind_some _ _).symm.trans H; rw [hy737]; with_reducible exact H2_) | (have H2_ := (Option.bind_some _ _).symm.trans H; with_reducible exact H2_) | with_reducible exact H | (rw [hy737]; exact H) | exact H
                    have Ny737 := Aside0.mk hy737
                    clear hy737
                    have H' := Aside0.mk H
                    clear H
                    have p34 : 0 ≤ ((ji31) : Int) := of_decide_eq_true (by first | (with_reducible assumption) | assumption)
                    have q34 : ((ji31) : Int) < ((x5_1.length : Int) : Int) := of_decide_eq_true (by first | (with_reducible assumption) | assumption)
                    obtain ⟨go34, co34, eo34, gb34, gl34, cl34, HG34⟩ := Kd.R_form HO_5.out (by omega)
                    (first | cases eo34 | (injection eo34 with ea_ en_ ec_; (first | subst ea_ | (injection ea_ with ea_; subst ea_)); subst ec_; clear en_))
                    have GB34 := Aside0.mk gb34
                    have GG34 := Aside0.mk HG34
                    clear gb34 gl34 HG34
                    obtain ⟨hx34_0, hf34_0⟩ := Kd.R_celln 0 HO_5.out ((ji31) : Int) p34 q34
                    replace p34 := eq_true p34
                    replace q34 := eq_true q34
                    have HP35 := Kd.R_putg HO_5.out ((ji31) : Int) ((0 : Int) % 256)
                    go_wp2_with (first | ((with_reducible refine gate_store (t := 5) (p := 38) rfl ?_); refine store_event (t := 5) (p := 38) (v := ?vo_w36) (w1 := (wr.setCell ⟨go34, ((ji31) : Int).toNat, none⟩ (.int .u8 ((0 : Int) % 256)))) ?hg ?ho ?hn ?hr ?_; (case ho => rfl); (case hg => rfl); (case hn => rfl); (case hr => first | (go_simp; done) | (go_simp; rfl)); intro w36 hw; have hg : wr.grownBy w36 (some go34) := (by rw [hw]; exact HP35.2); have hp_ : Kd.R (Kd.int .u8) 5 w36 w.heap.size (fun _ => True) (.slice (some ⟨go34, 0, none⟩) x5_1.length co34) y737 := (by rw [hw, Ny737.out]; exact HP35.1); clear HP35; have n0_ := Aside0.mk (hp_); have n1_ := Aside0.mk ((by rw [hw]; exact below_set (HB.out) GB34.out : Below w.heap.size w w36)); clear HO_5; clear HB; have HO_5 := n0_; have HB := n1_; clear n0_ n1_; clear hg hw hp_))
                    go_roundg k1
                    case measure => have := HK1.out; omega
                    case rel => exact ⟨(y737), (wrap64 (x6_1 + 1)), (by first | rfl | (simp; done) | (simp [*]; done)), H', ⟨by have := HK1.out; omega⟩, ⟨by (with_reducible repeat (first | apply Kd.R_alloc | apply Kd.R_drewN | apply Kd.R_drew)); exact HO_5.out⟩, ⟨by repeat (first | (with_reducible first | exact HB.out | apply below_alloc | apply pw_below_drewN | apply below_drew1) | exact HB.out)⟩⟩
                  · rw [if_neg c33] at H
                    exact absurd H (by simp)
                · rw [if_neg c32] at H
                  exact absurd H (by simp)
          · rw [if_neg c7] at H
            have c7b0 : decide (x6_1 < a1) = false := decide_eq_false c7
            clear c7
            obtain rfl := Option.some.inj H
            go_wp2
            go_ret
            exact ⟨_, by first | rfl | (simp [errW_none, errW_some] <;> rfl) | (simp [*, errW_none, errW_some] <;> rfl), by (with_reducible repeat (first | apply Kd.R_alloc | apply Kd.R_drewN | apply Kd.R_drew)); exact HO_5.out, by repeat (first | (with_reducible first | exact HB.out | apply below_alloc | apply pw_below_drewN | apply below_drew1) | exact HB.out)⟩
    · rw [if_neg c4] at H
      exact absurd H (by simp)
  · rw [if_neg c3] at H
    exact absurd H (by simp)

end Go.Proofs.Ytbnbofflnpppfaa.B
