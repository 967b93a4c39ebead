/- Written by xp.py, a program of this session, over the print of the kit: what it says is checked by its build. -/
import Derived.Test.YtanjbjenohdodaaBx0
import Derived.Test.YtanjbjenohdodaaBx2
import Derived.Test.YtanjbjenohdodaaBx3
namespace Go.Proofs.Ytanjbjenohdodaa.B
open Go.RowKit Go.Proofs.YtanjbjenohdodaaW.PrintWords Go.Proofs.YtanjbjenohdodaaW.PrintLast Go.Proofs.YtanjbjenohdodaaW.PrintMore
attribute [local go_sem] max2_int min2_int max_two min_two max_three min_three max_four min_four   -- for this text's walks alone
attribute [local go_sem] run_Add64 run_Add64_0 run_Sub64 run_Sub64_0
set_option linter.unusedVariables false
set_option linter.unusedSimpArgs false

/-! ### nat_guess: function 64 -/
mutual
def nat_guess.j0 : Nat → List Int → List Int → Int → Int → Int → Option (Int)
  | 0, _, _, _, _, _ => none
  | k + 1, x0, x1, x5, x6, x7 => nat_guess.l0 k x0 x1 x5 x6 x7
def nat_guess.l0 : Nat → List Int → List Int → Int → Int → Int → Option (Int)
  | 0, _, _, _, _, _ => none
  | k + 1, x0, x1, x5, x6, x7 => if 0 ≤ (wrap64 (x5 - 2)) then (if (wrap64 (x5 - 2)) < (x1.length : Int) then ((bits_Mul64.f x6 (rd x1 (wrap64 (x5 - 2)))).bind fun bt165 => (if bt165.1 < x7 then (nat_guess.j2 k x0 x1 x5 x6 x7 true) else (if bt165.1 = x7 then (if (wrap64 (x5 - 2)) < (x0.length : Int) then (nat_guess.j2 k x0 x1 x5 x6 x7 (decide (bt165.2 ≤ (rd x0 (wrap64 (x5 - 2)))))) else (none)) else (nat_guess.j2 k x0 x1 x5 x6 x7 false)))) else (none)) else (none)
def nat_guess.j2 : Nat → List Int → List Int → Int → Int → Int → Bool → Option (Int)
  | 0, _, _, _, _, _, _ => none
  | k + 1, x0, x1, x5, x6, x7, x85 => if x85 = true then (some x6) else (if 0 ≤ (wrap64 (x5 - 1)) then (if (wrap64 (x5 - 1)) < (x1.length : Int) then (if (IntKind.u64.wrap (x7 + (rd x1 (wrap64 (x5 - 1))))) < (rd x1 (wrap64 (x5 - 1))) then (some (IntKind.u64.wrap (x6 - 1))) else (nat_guess.l0 k x0 x1 x5 (IntKind.u64.wrap (x6 - 1)) (IntKind.u64.wrap (x7 + (rd x1 (wrap64 (x5 - 1))))))) else (none)) else (none))
end
def nat_guess.f (k : Nat) (l0 : List Int) (l1 : List Int) : Option (Int) := if 0 ≤ (l1.length : Int) then (if (l1.length : Int) < (l0.length : Int) then (if 0 ≤ (wrap64 ((l1.length : Int) - 1)) then (if (wrap64 ((l1.length : Int) - 1)) < (l1.length : Int) then (if (rd l0 (l1.length : Int)) < (rd l1 (wrap64 ((l1.length : Int) - 1))) then (if (wrap64 ((l1.length : Int) - 1)) < (l0.length : Int) then ((bits_Div64.f k (rd l0 (l1.length : Int)) (rd l0 (wrap64 ((l1.length : Int) - 1))) (rd l1 (wrap64 ((l1.length : Int) - 1)))).bind fun bt159 => (nat_guess.j0 k l0 l1 (l1.length : Int) bt159.1 bt159.2)) else (none)) else (if (wrap64 ((l1.length : Int) - 1)) < (l0.length : Int) then (if (IntKind.u64.wrap ((rd l0 (wrap64 ((l1.length : Int) - 1))) + (rd l1 (wrap64 ((l1.length : Int) - 1))))) < (rd l1 (wrap64 ((l1.length : Int) - 1))) then (some 18446744073709551615) else (nat_guess.j0 k l0 l1 (l1.length : Int) 18446744073709551615 (IntKind.u64.wrap ((rd l0 (wrap64 ((l1.length : Int) - 1))) + (rd l1 (wrap64 ((l1.length : Int) - 1))))))) else (none))) else (none)) else (none)) else (none)) else (none)
theorem nat_guess.mono_l : ∀ k, (∀ y0 y1 y2 y3 y4, LeO (nat_guess.j0 k y0 y1 y2 y3 y4) (nat_guess.j0 (k + 1) y0 y1 y2 y3 y4)) ∧ (∀ y0 y1 y2 y3 y4, LeO (nat_guess.l0 k y0 y1 y2 y3 y4) (nat_guess.l0 (k + 1) y0 y1 y2 y3 y4)) ∧ (∀ y0 y1 y2 y3 y4 y5, LeO (nat_guess.j2 k y0 y1 y2 y3 y4 y5) (nat_guess.j2 (k + 1) y0 y1 y2 y3 y4 y5))
  | 0 => ⟨fun _ _ _ _ _ r h => by simp [nat_guess.j0] at h, fun _ _ _ _ _ r h => by simp [nat_guess.l0] at h, fun _ _ _ _ _ _ r h => by simp [nat_guess.j2] at h⟩
  | k + 1 => by
    obtain ⟨ih0, ih1, ih2⟩ := nat_guess.mono_l k
    refine ⟨?_, ?_, ?_⟩
    · intro y0 y1 y2 y3 y4
      unfold nat_guess.j0
      repeat' first
      | (with_reducible exact ih0 _ _ _ _ _)
      | (with_reducible exact ih1 _ _ _ _ _)
      | (with_reducible exact ih2 _ _ _ _ _ _)
      | (with_reducible exact bits_Div64.mono _ _ _ _)
      | (with_reducible exact LeO.refl _)
      | (with_reducible exact LeO.none _)
      | (with_reducible refine LeO.ite ?_ ?_)
      | (with_reducible refine LeO.bind ?_ (fun _ => ?_))
      | exact ih0 _ _ _ _ _
      | exact ih1 _ _ _ _ _
      | exact ih2 _ _ _ _ _ _
      | exact bits_Div64.mono _ _ _ _
      | exact LeO.none _
      | refine LeO.ite ?_ ?_
      | refine LeO.bind ?_ (fun _ => ?_)
    · intro y0 y1 y2 y3 y4
      unfold nat_guess.l0
      repeat' first
      | (with_reducible exact ih0 _ _ _ _ _)
      | (with_reducible exact ih1 _ _ _ _ _)
      | (with_reducible exact ih2 _ _ _ _ _ _)
      | (with_reducible exact bits_Div64.mono _ _ _ _)
      | (with_reducible exact LeO.refl _)
      | (with_reducible exact LeO.none _)
      | (with_reducible refine LeO.ite ?_ ?_)
      | (with_reducible refine LeO.bind ?_ (fun _ => ?_))
      | exact ih0 _ _ _ _ _
      | exact ih1 _ _ _ _ _
      | exact ih2 _ _ _ _ _ _
      | exact bits_Div64.mono _ _ _ _
      | exact LeO.none _
      | refine LeO.ite ?_ ?_
      | refine LeO.bind ?_ (fun _ => ?_)
    · intro y0 y1 y2 y3 y4 y5
      unfold nat_guess.j2
      repeat' first
      | (with_reducible exact ih0 _ _ _ _ _)
      | (with_reducible exact ih1 _ _ _ _ _)
      | (with_reducible exact ih2 _ _ _ _ _ _)
      | (with_reducible exact bits_Div64.mono _ _ _ _)
      | (with_reducible exact LeO.refl _)
      | (with_reducible exact LeO.none _)
      | (with_reducible refine LeO.ite ?_ ?_)
      | (with_reducible refine LeO.bind ?_ (fun _ => ?_))
      | exact ih0 _ _ _ _ _
      | exact ih1 _ _ _ _ _
      | exact ih2 _ _ _ _ _ _
      | exact bits_Div64.mono _ _ _ _
      | exact LeO.none _
      | refine LeO.ite ?_ ?_
      | refine LeO.bind ?_ (fun _ => ?_)
theorem nat_guess.mono : ∀ a0 a1 k, LeO (nat_guess.f k a0 a1) (nat_guess.f (k + 1) a0 a1) := by
  intro a0 a1 k
  obtain ⟨ih0, ih1, ih2⟩ := nat_guess.mono_l k
  unfold nat_guess.f
  repeat' first
      | (with_reducible exact ih0 _ _ _ _ _)
      | (with_reducible exact ih1 _ _ _ _ _)
      | (with_reducible exact ih2 _ _ _ _ _ _)
      | (with_reducible exact bits_Div64.mono _ _ _ _)
      | (with_reducible exact LeO.refl _)
      | (with_reducible exact LeO.none _)
      | (with_reducible refine LeO.ite ?_ ?_)
      | (with_reducible refine LeO.bind ?_ (fun _ => ?_))
      | exact ih0 _ _ _ _ _
      | exact ih1 _ _ _ _ _
      | exact ih2 _ _ _ _ _ _
      | exact bits_Div64.mono _ _ _ _
      | exact LeO.none _
      | refine LeO.ite ?_ ?_
      | refine LeO.bind ?_ (fun _ => ?_)
set_option maxHeartbeats 8000000 in
set_option maxRecDepth 100000 in
theorem nat_guess.calls (k : Nat) (A0 : Option Addr) (c0 : Nat) (l0 : List Int) (A1 : Option Addr) (c1 : Nat) (l1 : List Int) (r : Int) (w : World) (hr0 : Kd.C (Kd.int .u64) w A0 l0.length l0) (hc0 : l0.length ≤ c0) (hr1 : Kd.C (Kd.int .u64) w A1 l1.length l1) (hc1 : l1.length ≤ c1) (h : nat_guess.f k l0 l1 = some r) :
    Calls Try.prog 64 #[.slice A0 l0.length c0, .slice A1 l1.length c1] w fun e w' => e = .returned (.int .u64 r) ∧ Drawn0 w w' := by
  have HR0 := Aside0.mk hr0
  have HC0 := Aside0.mk hc0
  clear hr0 hc0
  have HR1 := Aside0.mk hr1
  have HC1 := Aside0.mk hc1
  clear hr1 hc1
  have H : (if 0 ≤ (l1.length : Int) then (if (l1.length : Int) < (l0.length : Int) then (if 0 ≤ (wrap64 ((l1.length : Int) - 1)) then (if (wrap64 ((l1.length : Int) - 1)) < (l1.length : Int) then (if (rd l0 (l1.length : Int)) < (rd l1 (wrap64 ((l1.length : Int) - 1))) then (if (wrap64 ((l1.length : Int) - 1)) < (l0.length : Int) then ((bits_Div64.f k (rd l0 (l1.length : Int)) (rd l0 (wrap64 ((l1.length : Int) - 1))) (rd l1 (wrap64 ((l1.length : Int) - 1)))).bind fun bt159 => (nat_guess.j0 k l0 l1 (l1.length : Int) bt159.1 bt159.2)) else (none)) else (if (wrap64 ((l1.length : Int) - 1)) < (l0.length : Int) then (if (IntKind.u64.wrap ((rd l0 (wrap64 ((l1.length : Int) - 1))) + (rd l1 (wrap64 ((l1.length : Int) - 1))))) < (rd l1 (wrap64 ((l1.length : Int) - 1))) then (some 18446744073709551615) else (nat_guess.j0 k l0 l1 (l1.length : Int) 18446744073709551615 (IntKind.u64.wrap ((rd l0 (wrap64 ((l1.length : Int) - 1))) + (rd l1 (wrap64 ((l1.length : Int) - 1))))))) else (none))) else (none)) else (none)) else (none)) else (none)) = some r := h
  clear h
  by_cases c3 : 0 ≤ (l1.length : Int)
  · rw [if_pos c3] at H
    have c3b0 : decide (0 ≤ (l1.length : Int)) = true := decide_eq_true c3
    have c3b1 : decide (0 ≤ l1.length) = true := decide_eq_true (by omega)
    clear c3
    by_cases c4 : (l1.length : Int) < (l0.length : Int)
    · rw [if_pos c4] at H
      have c4b0 : decide ((l1.length : Int) < (l0.length : Int)) = true := decide_eq_true c4
      have c4b1 : decide (l1.length < l0.length) = true := decide_eq_true (Int.ofNat_lt.mp c4)
      clear c4
      obtain ⟨ji5, hji5⟩ : ∃ j_ : Int, (wrap64 ((l1.length : Int) - 1)) = j_ := ⟨_, rfl⟩
      replace H : (if 0 ≤ (ji5) then (if (ji5) < (l1.length : Int) then (if (rd l0 (l1.length : Int)) < (rd l1 (ji5)) then (if (ji5) < (l0.length : Int) then ((bits_Div64.f k (rd l0 (l1.length : Int)) (rd l0 (ji5)) (rd l1 (ji5))).bind fun bt159 => (nat_guess.j0 k l0 l1 (l1.length : Int) bt159.1 bt159.2)) else (none)) else (if (ji5) < (l0.length : Int) then (if (IntKind.u64.wrap ((rd l0 (ji5)) + (rd l1 (ji5)))) < (rd l1 (ji5)) then (some 18446744073709551615) else (nat_guess.j0 k l0 l1 (l1.length : Int) 18446744073709551615 (IntKind.u64.wrap ((rd l0 (ji5)) + (rd l1 (ji5)))))) else (none))) else (none)) else (none)) = some r := by first | (rw [hji5] at H; exact H) | (simp only [hji5] at H ⊢; exact H)
      have hji5w : (IntKind.i64.wrap ((l1.length : Int) - 1)) = ji5 := (i64_w _).trans hji5
      by_cases c6 : 0 ≤ (ji5)
      · rw [if_pos c6] at H
        have c6b0 : decide (0 ≤ (ji5)) = true := decide_eq_true c6
        clear c6
        by_cases c7 : (ji5) < (l1.length : Int)
        · rw [if_pos c7] at H
          have c7b0 : decide ((ji5) < (l1.length : Int)) = true := decide_eq_true c7
          clear c7
          have HC8 := Aside0.mk H
          clear H
          have p154 : 0 ≤ ((l1.length : Int) : Int) := of_decide_eq_true (by first | (with_reducible assumption) | assumption)
          have q154 : (l1.length : Int) < (l0.length : Int) := of_decide_eq_true (by first | (with_reducible assumption) | assumption)
          obtain ⟨ad154, e154, hx154_0⟩ := Kd.at_int HR0.out (l1.length : Int) p154 q154
          cases e154
          (try simp only [Go.IntWalk.toNatUp] at hx154_0)
          replace p154 := eq_true p154
          replace q154 := eq_true q154
          have p155 : 0 ≤ ((ji5) : Int) := of_decide_eq_true (by first | (with_reducible assumption) | assumption)
          have q155 : (ji5) < (l1.length : Int) := of_decide_eq_true (by first | (with_reducible assumption) | assumption)
          obtain ⟨ad155, e155, hx155_0⟩ := Kd.at_int HR1.out (ji5) p155 q155
          cases e155
          replace p155 := eq_true p155
          replace q155 := eq_true q155
          go_enter Try.func64, Try.ntmps64
          go_upto_if 21 with (fail)
          repeat (go_quiet (fail); go_upto_if 21 with (fail))
          go_cut [6, 7] (fun v6 v7 wc => ∃ (kq : Nat) (x6_7 : Int) (x7_7 : Int), v6 = .int .u64 x6_7 ∧ v7 = .int .u64 x7_7 ∧ Aside0 (nat_guess.j0 kq l0 l1 (l1.length : Int) x6_7 x7_7 = some r) ∧ Aside0 (kq ≤ k) ∧ Drawn0 w wc)
          case first =>
            have H := HC8.out
            clear HC8
            by_cases c9 : (rd l0 (l1.length : Int)) < (rd l1 (ji5))
            · rw [if_pos c9] at H
              have c9b0 : decide ((rd l0 (l1.length : Int)) < (rd l1 (ji5))) = true := decide_eq_true c9
              clear c9
              (first | rw [c9b0] | (simp only [i64_w, i32_w]; rw [c9b0]) | skip)
              by_cases c10 : (ji5) < (l0.length : Int)
              · rw [if_pos c10] at H
                have c10b0 : decide ((ji5) < (l0.length : Int)) = true := decide_eq_true c10
                clear c10
                replace H := Option.bind_eq_some_iff.mp H
                obtain ⟨⟨t159, t160⟩, A110, H⟩ := H
                replace H : (nat_guess.j0 k l0 l1 (l1.length : Int) t159 t160) = some r := H
                have A11 := Aside0.mk A110
                clear A110
                have H' := Aside0.mk H
                clear H
                have p156 : 0 ≤ ((l1.length : Int) : Int) := of_decide_eq_true (by first | (with_reducible assumption) | assumption)
                have q156 : (l1.length : Int) < (l0.length : Int) := of_decide_eq_true (by first | (with_reducible assumption) | assumption)
                obtain ⟨ad156, e156, hx156_0⟩ := Kd.at_int HR0.out (l1.length : Int) p156 q156
                obtain rfl : ad154 = ad156 := (by injection e156)
                (try simp only [Go.IntWalk.toNatUp] at hx156_0)
                replace p156 := eq_true p156
                replace q156 := eq_true q156
                have p157 : 0 ≤ ((ji5) : Int) := of_decide_eq_true (by first | (with_reducible assumption) | assumption)
                have q157 : (ji5) < (l0.length : Int) := of_decide_eq_true (by first | (with_reducible assumption) | assumption)
                obtain ⟨ad157, e157, hx157_0⟩ := Kd.at_int HR0.out (ji5) p157 q157
                obtain rfl : ad154 = ad157 := (by injection e157)
                replace p157 := eq_true p157
                replace q157 := eq_true q157
                have p158 : 0 ≤ ((ji5) : Int) := of_decide_eq_true (by first | (with_reducible assumption) | assumption)
                have q158 : (ji5) < (l1.length : Int) := of_decide_eq_true (by first | (with_reducible assumption) | assumption)
                obtain ⟨ad158, e158, hx158_0⟩ := Kd.at_int HR1.out (ji5) p158 q158
                obtain rfl : ad155 = ad158 := (by injection e158)
                replace p158 := eq_true p158
                replace q158 := eq_true q158
                go_wp2_with (first | (go_at_call 61; (with_reducible refine (bits_Div64.calls k (rd l0 (l1.length : Int)) (rd l0 (ji5)) (rd l1 (ji5)) t159 t160 _ A11.out).mono ?_); rintro e w' ⟨rfl, ⟨nd, rfl⟩⟩; (try first | exact ⟨rfl, _, World.drewN_drewN _ _ _⟩ | exact ⟨rfl, _, Eq.trans (World.drewN_drewN _ _ _) (congrArg (World.drewN _) (Nat.add_assoc _ _ _))⟩)))
                repeat (go_quiet (first | (go_at_call 61; (with_reducible refine (bits_Div64.calls k (rd l0 (l1.length : Int)) (rd l0 (ji5)) (rd l1 (ji5)) t159 t160 _ A11.out).mono ?_); rintro e w' ⟨rfl, ⟨nd, rfl⟩⟩; (try clear A11); (try first | exact ⟨rfl, _, World.drewN_drewN _ _ _⟩ | exact ⟨rfl, _, Eq.trans (World.drewN_drewN _ _ _) (congrArg (World.drewN _) (Nat.add_assoc _ _ _))⟩))); try go_wp2_with (first | (go_at_call 61; (with_reducible refine (bits_Div64.calls k (rd l0 (l1.length : Int)) (rd l0 (ji5)) (rd l1 (ji5)) t159 t160 _ A11.out).mono ?_); rintro e w' ⟨rfl, ⟨nd, rfl⟩⟩; (try clear A11); (try first | exact ⟨rfl, _, World.drewN_drewN _ _ _⟩ | exact ⟨rfl, _, Eq.trans (World.drewN_drewN _ _ _) (congrArg (World.drewN _) (Nat.add_assoc _ _ _))⟩))))
                go_meet
                case rel => exact ⟨_, (t159), (t160), (by first | rfl | (simp; done) | (simp [*]; done)), (by first | rfl | (simp; done) | (simp [*]; done)), H', ⟨by first | omega | exact Nat.le_refl _⟩, by repeat (first | exact Drawn0.refl _ | apply Drawn0.step)⟩
              · rw [if_neg c10] at H
                exact absurd H (by simp)
            · rw [if_neg c9] at H
              have c9b0 : decide ((rd l0 (l1.length : Int)) < (rd l1 (ji5))) = false := decide_eq_false c9
              clear c9
              (first | rw [c9b0] | (simp only [i64_w, i32_w]; rw [c9b0]) | skip)
              by_cases c12 : (ji5) < (l0.length : Int)
              · rw [if_pos c12] at H
                have c12b0 : decide ((ji5) < (l0.length : Int)) = true := decide_eq_true c12
                clear c12
                by_cases c13 : (IntKind.u64.wrap ((rd l0 (ji5)) + (rd l1 (ji5)))) < (rd l1 (ji5))
                · rw [if_pos c13] at H
                  have c13b0 : decide ((IntKind.u64.wrap ((rd l0 (ji5)) + (rd l1 (ji5)))) < (rd l1 (ji5))) = true := decide_eq_true c13
                  clear c13
                  obtain rfl := Option.some.inj H
                  have p161 : 0 ≤ ((ji5) : Int) := of_decide_eq_true (by first | (with_reducible assumption) | assumption)
                  have q161 : (ji5) < (l0.length : Int) := of_decide_eq_true (by first | (with_reducible assumption) | assumption)
                  obtain ⟨ad161, e161, hx161_0⟩ := Kd.at_int HR0.out (ji5) p161 q161
                  obtain rfl : ad154 = ad161 := (by injection e161)
                  replace p161 := eq_true p161
                  replace q161 := eq_true q161
                  have p162 : 0 ≤ ((ji5) : Int) := of_decide_eq_true (by first | (with_reducible assumption) | assumption)
                  have q162 : (ji5) < (l1.length : Int) := of_decide_eq_true (by first | (with_reducible assumption) | assumption)
                  obtain ⟨ad162, e162, hx162_0⟩ := Kd.at_int HR1.out (ji5) p162 q162
                  obtain rfl : ad155 = ad162 := (by injection e162)
                  replace p162 := eq_true p162
                  replace q162 := eq_true q162
                  have p163 : 0 ≤ ((ji5) : Int) := of_decide_eq_true (by first | (with_reducible assumption) | assumption)
                  have q163 : (ji5) < (l1.length : Int) := of_decide_eq_true (by first | (with_reducible assumption) | assumption)
                  obtain ⟨ad163, e163, hx163_0⟩ := Kd.at_int HR1.out (ji5) p163 q163
                  obtain rfl : ad155 = ad163 := (by injection e163)
                  replace p163 := eq_true p163
                  replace q163 := eq_true q163
                  go_wp2
                  repeat (go_quiet (fail); try go_wp2)
                  go_ret
                  exact ⟨by first | rfl | (simp; done) | (simp only [← hji5] <;> (first | rfl | simp)) | (simp [*]; done), by repeat (first | exact Drawn0.refl _ | apply Drawn0.step)⟩
                · rw [if_neg c13] at H
                  have c13b0 : decide ((IntKind.u64.wrap ((rd l0 (ji5)) + (rd l1 (ji5)))) < (rd l1 (ji5))) = false := decide_eq_false c13
                  clear c13
                  have H' := Aside0.mk H
                  clear H
                  have p161 : 0 ≤ ((ji5) : Int) := of_decide_eq_true (by first | (with_reducible assumption) | assumption)
                  have q161 : (ji5) < (l0.length : Int) := of_decide_eq_true (by first | (with_reducible assumption) | assumption)
                  obtain ⟨ad161, e161, hx161_0⟩ := Kd.at_int HR0.out (ji5) p161 q161
                  obtain rfl : ad154 = ad161 := (by injection e161)
                  replace p161 := eq_true p161
                  replace q161 := eq_true q161
                  have p162 : 0 ≤ ((ji5) : Int) := of_decide_eq_true (by first | (with_reducible assumption) | assumption)
                  have q162 : (ji5) < (l1.length : Int) := of_decide_eq_true (by first | (with_reducible assumption) | assumption)
                  obtain ⟨ad162, e162, hx162_0⟩ := Kd.at_int HR1.out (ji5) p162 q162
                  obtain rfl : ad155 = ad162 := (by injection e162)
                  replace p162 := eq_true p162
                  replace q162 := eq_true q162
                  have p163 : 0 ≤ ((ji5) : Int) := of_decide_eq_true (by first | (with_reducible assumption) | assumption)
                  have q163 : (ji5) < (l1.length : Int) := of_decide_eq_true (by first | (with_reducible assumption) | assumption)
                  obtain ⟨ad163, e163, hx163_0⟩ := Kd.at_int HR1.out (ji5) p163 q163
                  obtain rfl : ad155 = ad163 := (by injection e163)
                  replace p163 := eq_true p163
                  replace q163 := eq_true q163
                  go_wp2
                  repeat (go_quiet (fail); try go_wp2)
                  go_meet
                  case rel => exact ⟨_, (18446744073709551615), (IntKind.u64.wrap ((rd l0 (ji5)) + (rd l1 (ji5)))), (by first | rfl | (simp; done) | (simp [*]; done)), (by first | rfl | (simp; done) | (simp only [← hji5] <;> (first | rfl | simp)) | (simp [*]; done)), H', ⟨by first | omega | exact Nat.le_refl _⟩, by repeat (first | exact Drawn0.refl _ | apply Drawn0.step)⟩
              · rw [if_neg c12] at H
                exact absurd H (by simp)
          case rest =>
            clear HC8
            try clear c1
            try clear p1
            try clear q1
            try clear hx1
            try clear p2
            try clear c3
            try clear c3b0
            try clear c3b1
            try clear c4
            try clear c4b0
            try clear c4b1
            try clear c6
            try clear c6b0
            try clear p6
            try clear c7
            try clear c7b0
            try clear c9
            try clear c9b0
            try clear c10
            try clear c10b0
            try clear c12
            try clear c12b0
            try clear c13
            try clear c13b0
            try clear hx154_0
            try clear hx155_0
            try clear hx156_0
            try clear hx157_0
            try clear hx158_0
            try clear hx161_0
            try clear hx162_0
            try clear hx163_0
            try clear p154
            try clear p155
            try clear p156
            try clear p157
            try clear p158
            try clear p161
            try clear p162
            try clear p163
            try clear q154
            try clear q155
            try clear q156
            try clear q157
            try clear q158
            try clear q161
            try clear q162
            try clear q163
            obtain ⟨kq, x6_7, x7_7, rfl, rfl, HA, HJ7, ⟨mc7, rfl⟩⟩ := hcut
            cases kq with
            | zero => exact absurd HA.out (by simp [nat_guess.j0])
            | succ kj7 =>
              have H := HA.out
              clear HA
              simp only [nat_guess.j0] at H
              have H' := Aside0.mk H
              clear H
              go_wp2
              repeat (go_quiet (fail); try go_wp2)
              go_loopg [6, 7] kj7 (fun kq v6 v7 w' => ∃ (x6_2 : Int) (x7_2 : Int), v6 = .int .u64 x6_2 ∧ v7 = .int .u64 x7_2 ∧ Aside0 (nat_guess.l0 kq l0 l1 (l1.length : Int) x6_2 x7_2 = some r) ∧ Aside0 (kq ≤ kj7) ∧ Drawn0 w w')
              case atStart => exact ⟨(x6_7), (x7_7), (by first | rfl | (simp; done) | (simp [*]; done)), (by first | rfl | (simp; done) | (simp [*]; done)), H', ⟨Nat.le_refl _⟩, by repeat (first | exact Drawn0.refl _ | apply Drawn0.step)⟩
              case round =>
                clear H'
                try clear c1
                try clear p1
                try clear q1
                try clear hx1
                try clear p2
                try clear c3
                try clear c3b0
                try clear c3b1
                try clear c4
                try clear c4b0
                try clear c4b1
                try clear c6
                try clear c6b0
                try clear p6
                try clear c7
                try clear c7b0
                try clear c9
                try clear c9b0
                try clear c10
                try clear c10b0
                try clear c12
                try clear c12b0
                try clear c13
                try clear c13b0
                try clear hx154_0
                try clear hx155_0
                try clear hx156_0
                try clear hx157_0
                try clear hx158_0
                try clear hx161_0
                try clear hx162_0
                try clear hx163_0
                try clear p1
                try clear p154
                try clear p155
                try clear p156
                try clear p157
                try clear p158
                try clear p161
                try clear p162
                try clear p163
                try clear p2
                try clear p6
                try clear q1
                try clear q154
                try clear q155
                try clear q156
                try clear q157
                try clear q158
                try clear q161
                try clear q162
                try clear q163
                obtain ⟨x6_2, x7_2, rfl, rfl, HA, HK2, ⟨m2, rfl⟩⟩ := hrel
                cases gk with
                | zero => exact absurd HA.out (by simp [nat_guess.l0])
                | succ k2 =>
                  have H := HA.out
                  clear HA
                  simp only [nat_guess.l0] at H
                  obtain ⟨ji14, hji14⟩ : ∃ j_ : Int, (wrap64 ((l1.length : Int) - 2)) = j_ := ⟨_, rfl⟩
                  replace H : (if 0 ≤ (ji14) then (if (ji14) < (l1.length : Int) then ((bits_Mul64.f x6_2 (rd l1 (ji14))).bind fun bt165 => (if bt165.1 < x7_2 then (nat_guess.j2 k2 l0 l1 (l1.length : Int) x6_2 x7_2 true) else (if bt165.1 = x7_2 then (if (ji14) < (l0.length : Int) then (nat_guess.j2 k2 l0 l1 (l1.length : Int) x6_2 x7_2 (decide (bt165.2 ≤ (rd l0 (ji14))))) else (none)) else (nat_guess.j2 k2 l0 l1 (l1.length : Int) x6_2 x7_2 false)))) else (none)) else (none)) = some r := by first | (rw [hji14] at H; exact H) | (simp only [hji14] at H ⊢; exact H)
                  have hji14w : (IntKind.i64.wrap ((l1.length : Int) - 2)) = ji14 := (i64_w _).trans hji14
                  by_cases c15 : 0 ≤ (ji14)
                  · rw [if_pos c15] at H
                    have c15b0 : decide (0 ≤ (ji14)) = true := decide_eq_true c15
                    clear c15
                    by_cases c16 : (ji14) < (l1.length : Int)
                    · rw [if_pos c16] at H
                      have c16b0 : decide ((ji14) < (l1.length : Int)) = true := decide_eq_true c16
                      clear c16
                      replace H := Option.bind_eq_some_iff.mp H
                      obtain ⟨⟨t165, t166⟩, A170, H⟩ := H
                      replace H : (if t165 < x7_2 then (nat_guess.j2 k2 l0 l1 (l1.length : Int) x6_2 x7_2 true) else (if t165 = x7_2 then (if (ji14) < (l0.length : Int) then (nat_guess.j2 k2 l0 l1 (l1.length : Int) x6_2 x7_2 (decide (t166 ≤ (rd l0 (ji14))))) else (none)) else (nat_guess.j2 k2 l0 l1 (l1.length : Int) x6_2 x7_2 false))) = some r := H
                      have A17 := Aside0.mk A170
                      clear A170
                      have HC18 := Aside0.mk H
                      clear H
                      have p164 : 0 ≤ ((ji14) : Int) := of_decide_eq_true (by first | (with_reducible assumption) | assumption)
                      have q164 : (ji14) < (l1.length : Int) := of_decide_eq_true (by first | (with_reducible assumption) | assumption)
                      obtain ⟨ad164, e164, hx164_0⟩ := Kd.at_int HR1.out (ji14) p164 q164
                      obtain rfl : ad155 = ad164 := (by injection e164)
                      replace p164 := eq_true p164
                      replace q164 := eq_true q164
                      go_upto_region 9 with (first | (go_at_call 57; (with_reducible refine (bits_Mul64.calls x6_2 (rd l1 (ji14)) t165 t166 _ A17.out).mono ?_); rintro e w' ⟨rfl, ⟨nd, rfl⟩⟩; (try first | exact ⟨rfl, _, World.drewN_drewN _ _ _⟩ | exact ⟨rfl, _, Eq.trans (World.drewN_drewN _ _ _) (congrArg (World.drewN _) (Nat.add_assoc _ _ _))⟩)))
                      repeat (go_quiet (first | (go_at_call 57; (with_reducible refine (bits_Mul64.calls x6_2 (rd l1 (ji14)) t165 t166 _ A17.out).mono ?_); rintro e w' ⟨rfl, ⟨nd, rfl⟩⟩; (try clear A17); (try first | exact ⟨rfl, _, World.drewN_drewN _ _ _⟩ | exact ⟨rfl, _, Eq.trans (World.drewN_drewN _ _ _) (congrArg (World.drewN _) (Nat.add_assoc _ _ _))⟩))); go_upto_region 9 with (first | (go_at_call 57; (with_reducible refine (bits_Mul64.calls x6_2 (rd l1 (ji14)) t165 t166 _ A17.out).mono ?_); rintro e w' ⟨rfl, ⟨nd, rfl⟩⟩; (try clear A17); (try first | exact ⟨rfl, _, World.drewN_drewN _ _ _⟩ | exact ⟨rfl, _, Eq.trans (World.drewN_drewN _ _ _) (congrArg (World.drewN _) (Nat.add_assoc _ _ _))⟩))))
                      (try simp only [Act.put, List.setIfInBounds_toArray, List.set_cons_zero, List.set_cons_succ])
                      go_cut [85] (fun v85 wc => ∃ (kq : Nat) (x85_17 : Bool), v85 = .bool x85_17 ∧ Aside0 (nat_guess.j2 kq l0 l1 (l1.length : Int) x6_2 x7_2 x85_17 = some r) ∧ Aside0 (kq ≤ k2) ∧ Drawn0 w wc)
                      case first =>
                        have H := HC18.out
                        clear HC18
                        by_cases c19 : t165 < x7_2
                        · rw [if_pos c19] at H
                          have c19b0 : decide (t165 < x7_2) = true := decide_eq_true c19
                          clear c19
                          (first | rw [c19b0] | (simp only [i64_w, i32_w]; rw [c19b0]) | skip)
                          have H' := Aside0.mk H
                          clear H
                          go_wp2
                          repeat (go_quiet (fail); try go_wp2)
                          go_meet
                          case rel => exact ⟨_, (true), (by first | rfl | (simp; done) | (simp [*]; done)), H', ⟨by have := HJ7.out; have := HK2.out; first | omega | exact Nat.le_refl _⟩, by repeat (first | exact Drawn0.refl _ | apply Drawn0.step)⟩
                        · rw [if_neg c19] at H
                          have c19b0 : decide (t165 < x7_2) = false := decide_eq_false c19
                          clear c19
                          (first | rw [c19b0] | (simp only [i64_w, i32_w]; rw [c19b0]) | skip)
                          by_cases c20 : t165 = x7_2
                          · rw [if_pos c20] at H
                            have c20b0 : (t165 == x7_2) = true := beq_iff_eq.mpr c20
                            have c20b1 : (t165 != x7_2) = false := bne_eq_false_iff_eq.mpr c20
                            clear c20
                            by_cases c21 : (ji14) < (l0.length : Int)
                            · rw [if_pos c21] at H
                              have c21b0 : decide ((ji14) < (l0.length : Int)) = true := decide_eq_true c21
                              clear c21
                              have H' := Aside0.mk H
                              clear H
                              have p167 : 0 ≤ ((ji14) : Int) := of_decide_eq_true (by first | (with_reducible assumption) | assumption)
                              have q167 : (ji14) < (l0.length : Int) := of_decide_eq_true (by first | (with_reducible assumption) | assumption)
                              obtain ⟨ad167, e167, hx167_0⟩ := Kd.at_int HR0.out (ji14) p167 q167
                              obtain rfl : ad154 = ad167 := (by injection e167)
                              replace p167 := eq_true p167
                              replace q167 := eq_true q167
                              go_wp2
                              repeat (go_quiet (fail); try go_wp2)
                              go_meet
                              case rel => exact ⟨_, (decide (t166 ≤ (rd l0 (ji14)))), (by first | rfl | (simp; done) | (simp only [← hji14] <;> (first | rfl | simp)) | (simp [*]; done)), H', ⟨by have := HJ7.out; have := HK2.out; first | omega | exact Nat.le_refl _⟩, by repeat (first | exact Drawn0.refl _ | apply Drawn0.step)⟩
                            · rw [if_neg c21] at H
                              exact absurd H (by simp)
                          · rw [if_neg c20] at H
                            have c20b0 : (t165 == x7_2) = false := beq_eq_false_iff_ne.mpr c20
                            have c20b1 : (t165 != x7_2) = true := bne_iff_ne.mpr c20
                            have H' := Aside0.mk H
                            clear H
                            go_wp2
                            repeat (go_quiet (fail); try go_wp2)
                            go_meet
                            case rel => exact ⟨_, (false), (by first | rfl | (simp; done) | (simp [*]; done)), H', ⟨by have := HJ7.out; have := HK2.out; first | omega | exact Nat.le_refl _⟩, by repeat (first | exact Drawn0.refl _ | apply Drawn0.step)⟩
                      case rest =>
                        clear HC18
                        try clear c1
                        try clear p1
                        try clear q1
                        try clear hx1
                        try clear c2
                        try clear p2
                        try clear c3
                        try clear c3b0
                        try clear c3b1
                        try clear c4
                        try clear c4b0
                        try clear c4b1
                        try clear c6
                        try clear c6b0
                        try clear p6
                        try clear c7
                        try clear c7b0
                        try clear c9
                        try clear c9b0
                        try clear c10
                        try clear c10b0
                        try clear c12
                        try clear c12b0
                        try clear c13
                        try clear c13b0
                        try clear c15
                        try clear c15b0
                        try clear p15
                        try clear q15
                        try clear hx15
                        try clear c16
                        try clear c16b0
                        try clear p16
                        try clear q16
                        try clear hx16
                        try clear c19
                        try clear c19b0
                        try clear c20
                        try clear c20b0
                        try clear c20b1
                        try clear c21
                        try clear c21b0
                        try clear hx154_0
                        try clear hx155_0
                        try clear hx156_0
                        try clear hx157_0
                        try clear hx158_0
                        try clear hx161_0
                        try clear hx162_0
                        try clear hx163_0
                        try clear hx164_0
                        try clear hx167_0
                        try clear p1
                        try clear p154
                        try clear p155
                        try clear p156
                        try clear p157
                        try clear p158
                        try clear p161
                        try clear p162
                        try clear p163
                        try clear p164
                        try clear p167
                        try clear p2
                        try clear p6
                        try clear q1
                        try clear q154
                        try clear q155
                        try clear q156
                        try clear q157
                        try clear q158
                        try clear q161
                        try clear q162
                        try clear q163
                        try clear q164
                        try clear q167
                        obtain ⟨kq, x85_17, rfl, HA, HJ17, ⟨mc17, rfl⟩⟩ := hcut
                        cases kq with
                        | zero => exact absurd HA.out (by simp [nat_guess.j2])
                        | succ kj17 =>
                          have H := HA.out
                          clear HA
                          simp only [nat_guess.j2] at H
                          by_cases c22 : x85_17 = true
                          · subst c22
                            have H1 : (some x6_2) = some r := by rw [if_pos rfl] at H; exact H
                            clear H
                            have H := H1
                            clear H1
                            obtain rfl := Option.some.inj H
                            go_wp2
                            repeat (go_quiet (fail); try go_wp2)
                            go_ret
                            exact ⟨by first | rfl | (simp; done) | (simp only [← hji5, ← hji14] <;> (first | rfl | simp)) | (simp [*]; done), by repeat (first | exact Drawn0.refl _ | apply Drawn0.step)⟩
                          · replace c22 := Bool.eq_false_iff.mpr c22
                            subst c22
                            have H1 : (if 0 ≤ (wrap64 ((l1.length : Int) - 1)) then (if (wrap64 ((l1.length : Int) - 1)) < (l1.length : Int) then (if (IntKind.u64.wrap (x7_2 + (rd l1 (wrap64 ((l1.length : Int) - 1))))) < (rd l1 (wrap64 ((l1.length : Int) - 1))) then (some (IntKind.u64.wrap (x6_2 - 1))) else (nat_guess.l0 kj17 l0 l1 (l1.length : Int) (IntKind.u64.wrap (x6_2 - 1)) (IntKind.u64.wrap (x7_2 + (rd l1 (wrap64 ((l1.length : Int) - 1))))))) else (none)) else (none)) = some r := by rw [if_neg (show ¬ (false = true) by decide)] at H; exact H
                            clear H
                            have H := H1
                            clear H1
                            obtain ⟨ji23, hji23⟩ : ∃ j_ : Int, (wrap64 ((l1.length : Int) - 1)) = j_ := ⟨_, rfl⟩
                            (try (have hji23eji5 := hji23; rw [hji5] at hji23eji5))
                            replace H : (if 0 ≤ (ji23) then (if (ji23) < (l1.length : Int) then (if (IntKind.u64.wrap (x7_2 + (rd l1 (ji23)))) < (rd l1 (ji23)) then (some (IntKind.u64.wrap (x6_2 - 1))) else (nat_guess.l0 kj17 l0 l1 (l1.length : Int) (IntKind.u64.wrap (x6_2 - 1)) (IntKind.u64.wrap (x7_2 + (rd l1 (ji23)))))) else (none)) else (none)) = some r := by first | (rw [hji23] at H; exact H) | (simp only [hji23] at H ⊢; exact H)
                            have hji23w : (IntKind.i64.wrap ((l1.length : Int) - 1)) = ji23 := (i64_w _).trans hji23
                            by_cases c24 : 0 ≤ (ji23)
                            · rw [if_pos c24] at H
                              have c24b0 : decide (0 ≤ (ji23)) = true := decide_eq_true c24
                              clear c24
                              by_cases c25 : (ji23) < (l1.length : Int)
                              · rw [if_pos c25] at H
                                have c25b0 : decide ((ji23) < (l1.length : Int)) = true := decide_eq_true c25
                                clear c25
                                by_cases c26 : (IntKind.u64.wrap (x7_2 + (rd l1 (ji23)))) < (rd l1 (ji23))
                                · rw [if_pos c26] at H
                                  have c26b0 : decide ((IntKind.u64.wrap (x7_2 + (rd l1 (ji23)))) < (rd l1 (ji23))) = true := decide_eq_true c26
                                  clear c26
                                  obtain rfl := Option.some.inj H
                                  have p168 : 0 ≤ ((ji23) : Int) := of_decide_eq_true (by first | (with_reducible assumption) | assumption)
                                  have q168 : (ji23) < (l1.length : Int) := of_decide_eq_true (by first | (with_reducible assumption) | assumption)
                                  obtain ⟨ad168, e168, hx168_0⟩ := Kd.at_int HR1.out (ji23) p168 q168
                                  obtain rfl : ad155 = ad168 := (by injection e168)
                                  replace p168 := eq_true p168
                                  replace q168 := eq_true q168
                                  have p169 : 0 ≤ ((ji23) : Int) := of_decide_eq_true (by first | (with_reducible assumption) | assumption)
                                  have q169 : (ji23) < (l1.length : Int) := of_decide_eq_true (by first | (with_reducible assumption) | assumption)
                                  obtain ⟨ad169, e169, hx169_0⟩ := Kd.at_int HR1.out (ji23) p169 q169
                                  obtain rfl : ad155 = ad169 := (by injection e169)
                                  replace p169 := eq_true p169
                                  replace q169 := eq_true q169
                                  go_wp2
                                  repeat (go_quiet (fail); try go_wp2)
                                  go_ret
                                  exact ⟨by first | rfl | (simp; done) | (simp only [← hji5, ← hji14, ← hji23] <;> (first | rfl | simp)) | (simp [*]; done), by repeat (first | exact Drawn0.refl _ | apply Drawn0.step)⟩
                                · rw [if_neg c26] at H
                                  have c26b0 : decide ((IntKind.u64.wrap (x7_2 + (rd l1 (ji23)))) < (rd l1 (ji23))) = false := decide_eq_false c26
                                  clear c26
                                  have H' := Aside0.mk H
                                  clear H
                                  have p168 : 0 ≤ ((ji23) : Int) := of_decide_eq_true (by first | (with_reducible assumption) | assumption)
                                  have q168 : (ji23) < (l1.length : Int) := of_decide_eq_true (by first | (with_reducible assumption) | assumption)
                                  obtain ⟨ad168, e168, hx168_0⟩ := Kd.at_int HR1.out (ji23) p168 q168
                                  obtain rfl : ad155 = ad168 := (by injection e168)
                                  replace p168 := eq_true p168
                                  replace q168 := eq_true q168
                                  have p169 : 0 ≤ ((ji23) : Int) := of_decide_eq_true (by first | (with_reducible assumption) | assumption)
                                  have q169 : (ji23) < (l1.length : Int) := of_decide_eq_true (by first | (with_reducible assumption) | assumption)
                                  obtain ⟨ad169, e169, hx169_0⟩ := Kd.at_int HR1.out (ji23) p169 q169
                                  obtain rfl : ad155 = ad169 := (by injection e169)
                                  replace p169 := eq_true p169
                                  replace q169 := eq_true q169
                                  go_wp2
                                  repeat (go_quiet (fail); try go_wp2)
                                  go_roundg kj17
                                  case measure => have := HJ7.out; have := HK2.out; have := HJ17.out; omega
                                  case rel => exact ⟨(IntKind.u64.wrap (x6_2 - 1)), (IntKind.u64.wrap (x7_2 + (rd l1 (ji23)))), (by first | rfl | (simp; done) | (simp [*]; done)), (by first | rfl | (simp; done) | (simp only [← hji23] <;> (first | rfl | simp)) | (simp [*]; done)), H', ⟨by have := HJ7.out; have := HK2.out; have := HJ17.out; omega⟩, by repeat (first | exact Drawn0.refl _ | apply Drawn0.step)⟩
                              · rw [if_neg c25] at H
                                exact absurd H (by simp)
                            · rw [if_neg c24] at H
                              exact absurd H (by simp)
                    · rw [if_neg c16] at H
                      exact absurd H (by simp)
                  · rw [if_neg c15] at H
                    exact absurd H (by simp)
        · rw [if_neg c7] at H
          exact absurd H (by simp)
      · rw [if_neg c6] at H
        exact absurd H (by simp)
    · rw [if_neg c4] at H
      exact absurd H (by simp)
  · rw [if_neg c3] at H
    exact absurd H (by simp)

-- NOT PRINTED: function 67 (bits_Sub64)

end Go.Proofs.Ytanjbjenohdodaa.B
