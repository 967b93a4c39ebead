/- Written by xp.py, a program of this session, over the print of the kit: what it says is checked by its build. -/
import Derived.Test.YtbnbofflnpppfaaBx0
import Derived.Test.YtbnbofflnpppfaaBx2
import Derived.Test.YtbnbofflnpppfaaBx6
namespace Go.Proofs.Ytbnbofflnpppfaa.B
open Go.RowKit Go.Proofs.YtbnbofflnpppfaaW.PrintWords Go.Proofs.YtbnbofflnpppfaaW.PrintLast Go.Proofs.YtbnbofflnpppfaaW.PrintMore
attribute [local go_sem] max2_int min2_int max_two min_two max_three min_three max_four min_four   -- for this text's walks alone
attribute [local go_sem] run_Add64 run_Add64_0 run_Sub64 run_Sub64_0
set_option linter.unusedVariables false
set_option linter.unusedSimpArgs false

/-! ### latchkeylaw01_NatTexts: function 9 -/
def latchkeylaw01_NatTexts.f (k : Nat) (l0 : List Int) (a1 : Int) : Option (Bool) := (latchkeylaw01_Awake.f k).bind fun t754 => (if t754 = true then (if (wrap64 ((l0.length : Int) + (wrap64 (a1)))) > 512 then (some true) else ((nat_Read.f k l0).bind fun bt755 => (if 0 ≤ a1 then (if (a1 : Int).toNat ≤ 281474976710656 then ((some (List.replicate (a1 : Int).toNat 0 : List Int)).bind fun y759 => (if y759.length + l0.length < 140737488355328 then ((nat_Read.f k (y759 ++ l0)).bind fun bt765 => ((nat_Bytes.f k bt755.1 (l0.length : Int)).bind fun bt769 => (if bt755.2 = 0 then (if bt765.2 = 0 then (if bt769.2 = true then (if (strOfNums bt769.1).toList = (strOfNums l0).toList then ((nat_Cmp.f k bt755.1 bt765.1).bind fun t773 => (some (t773 == 0))) else (none)) else (none)) else (none)) else (none)))) else (none))) else (none)) else (none)))) else (none))
theorem latchkeylaw01_NatTexts.mono : ∀ a0 a1 k, LeO (latchkeylaw01_NatTexts.f k a0 a1) (latchkeylaw01_NatTexts.f (k + 1) a0 a1) := by
  intro a0 a1 k
  unfold latchkeylaw01_NatTexts.f
  repeat' first
      | (with_reducible exact latchkeylaw01_Awake.mono _)
      | (with_reducible exact nat_Bytes.mono _ _ _)
      | (with_reducible exact nat_Cmp.mono _ _ _)
      | (with_reducible exact nat_Read.mono _ _)
      | (with_reducible exact LeO.refl _)
      | (with_reducible exact LeO.none _)
      | (with_reducible refine LeO.ite ?_ ?_)
      | (with_reducible refine LeO.bind ?_ (fun _ => ?_))
      | exact latchkeylaw01_Awake.mono _
      | exact nat_Bytes.mono _ _ _
      | exact nat_Cmp.mono _ _ _
      | exact nat_Read.mono _ _
      | exact LeO.none _
      | refine LeO.ite ?_ ?_
      | refine LeO.bind ?_ (fun _ => ?_)
set_option maxHeartbeats 8000000 in
set_option maxRecDepth 100000 in
theorem latchkeylaw01_NatTexts.calls (k : Nat) (A0 : Option Addr) (c0 : Nat) (l0 : List Int) (a1 : Int) (r : Bool) (w : World) (hr0 : Kd.C (Kd.int .u8) w A0 l0.length l0) (hc0 : l0.length ≤ c0) (h : latchkeylaw01_NatTexts.f k l0 a1 = some r) :
    Calls Try.prog 9 #[.slice A0 l0.length c0, .int .u8 a1] w fun e w' => e = .returned (.bool r) ∧ Below w.heap.size w w' := by
  have HR0 := Aside0.mk hr0
  have HC0 := Aside0.mk hc0
  clear hr0 hc0
  have HB := Aside0.mk (Below.refl w.heap.size w)
  have H : ((latchkeylaw01_Awake.f k).bind fun t754 => (if t754 = true then (if (wrap64 ((l0.length : Int) + (wrap64 (a1)))) > 512 then (some true) else ((nat_Read.f k l0).bind fun bt755 => (if 0 ≤ a1 then (if (a1 : Int).toNat ≤ 281474976710656 then ((some (List.replicate (a1 : Int).toNat 0 : List Int)).bind fun y759 => (if y759.length + l0.length < 140737488355328 then ((nat_Read.f k (y759 ++ l0)).bind fun bt765 => ((nat_Bytes.f k bt755.1 (l0.length : Int)).bind fun bt769 => (if bt755.2 = 0 then (if bt765.2 = 0 then (if bt769.2 = true then (if (strOfNums bt769.1).toList = (strOfNums l0).toList then ((nat_Cmp.f k bt755.1 bt765.1).bind fun t773 => (some (t773 == 0))) else (none)) else (none)) else (none)) else (none)))) else (none))) else (none)) else (none)))) else (none))) = some r := h
  clear h
  replace H := Option.bind_eq_some_iff.mp H
  obtain ⟨t754, A30, H⟩ := H
  replace H : (if t754 = true then (if (wrap64 ((l0.length : Int) + (wrap64 (a1)))) > 512 then (some true) else ((nat_Read.f k l0).bind fun bt755 => (if 0 ≤ a1 then (if (a1 : Int).toNat ≤ 281474976710656 then ((some (List.replicate (a1 : Int).toNat 0 : List Int)).bind fun y759 => (if y759.length + l0.length < 140737488355328 then ((nat_Read.f k (y759 ++ l0)).bind fun bt765 => ((nat_Bytes.f k bt755.1 (l0.length : Int)).bind fun bt769 => (if bt755.2 = 0 then (if bt765.2 = 0 then (if bt769.2 = true then (if (strOfNums bt769.1).toList = (strOfNums l0).toList then ((nat_Cmp.f k bt755.1 bt765.1).bind fun t773 => (some (t773 == 0))) else (none)) else (none)) else (none)) else (none)))) else (none))) else (none)) else (none)))) else (none)) = some r := H
  have A3 := Aside0.mk A30
  clear A30
  by_cases c4 : t754 = true
  · subst c4
    have H1 : (if (wrap64 ((l0.length : Int) + (wrap64 (a1)))) > 512 then (some true) else ((nat_Read.f k l0).bind fun bt755 => (if 0 ≤ a1 then (if (a1 : Int).toNat ≤ 281474976710656 then ((some (List.replicate (a1 : Int).toNat 0 : List Int)).bind fun y759 => (if y759.length + l0.length < 140737488355328 then ((nat_Read.f k (y759 ++ l0)).bind fun bt765 => ((nat_Bytes.f k bt755.1 (l0.length : Int)).bind fun bt769 => (if bt755.2 = 0 then (if bt765.2 = 0 then (if bt769.2 = true then (if (strOfNums bt769.1).toList = (strOfNums l0).toList then ((nat_Cmp.f k bt755.1 bt765.1).bind fun t773 => (some (t773 == 0))) else (none)) else (none)) else (none)) else (none)))) else (none))) else (none)) else (none)))) = some r := by rw [if_pos rfl] at H; exact H
    clear H
    have H := H1
    clear H1
    by_cases c5 : (wrap64 ((l0.length : Int) + (wrap64 (a1)))) > 512
    · rw [if_pos c5] at H
      have c5b0 : decide (512 < (wrap64 ((l0.length : Int) + (wrap64 (a1))))) = true := decide_eq_true c5
      clear c5
      obtain rfl := Option.some.inj H
      go_enter Try.func9, Try.ntmps9
      go_wp2_with (first | ((with_reducible refine gate_callee (f := 17) rfl ?_); refine goesL_ (some 11) rfl rfl Try.func17 (by kernel_rfl) rfl #[] rfl (by (try simp only [List.map_toArray, List.map_cons, List.map_nil]); first | done | rfl | (simp only [List.length_drop, List.length_take]; rfl)) ?_; (with_reducible refine (latchkeylaw01_Awake.calls k  true _ A3.out).mono ?_); rintro e w6 ⟨rfl, hb⟩; refine ⟨_, rfl, ?_⟩; have n0_ := Aside0.mk (below_step (by repeat (first | (with_reducible first | exact HB.out | apply below_alloc | apply pw_below_drewN | apply below_drew1) | exact HB.out)) hb); clear HB; have HB := n0_; clear n0_; (try clear hb); (try clear hb2); (try clear hk); (try clear hi)))
      go_ret
      exact ⟨by first | rfl | (simp [errW_none, errW_some] <;> rfl) | (simp [*, errW_none, errW_some] <;> rfl), by repeat (first | (with_reducible first | exact HB.out | apply below_alloc | apply pw_below_drewN | apply below_drew1) | exact HB.out)⟩
    · rw [if_neg c5] at H
      have c5b0 : decide (512 < (wrap64 ((l0.length : Int) + (wrap64 (a1))))) = false := decide_eq_false c5
      clear c5
      replace H := Option.bind_eq_some_iff.mp H
      obtain ⟨⟨t755, t756⟩, A70, H⟩ := H
      replace H : (if 0 ≤ a1 then (if (a1 : Int).toNat ≤ 281474976710656 then ((some (List.replicate (a1 : Int).toNat 0 : List Int)).bind fun y759 => (if y759.length + l0.length < 140737488355328 then ((nat_Read.f k (y759 ++ l0)).bind fun bt765 => ((nat_Bytes.f k t755 (l0.length : Int)).bind fun bt769 => (if t756 = 0 then (if bt765.2 = 0 then (if bt769.2 = true then (if (strOfNums bt769.1).toList = (strOfNums l0).toList then ((nat_Cmp.f k t755 bt765.1).bind fun t773 => (some (t773 == 0))) else (none)) else (none)) else (none)) else (none)))) else (none))) else (none)) else (none)) = some r := H
      have A7 := Aside0.mk A70
      clear A70
      by_cases c8 : 0 ≤ a1
      · rw [if_pos c8] at H
        have c8b0 := eq_true c8
        have c8b1 : decide (0 ≤ a1) = true := decide_eq_true c8
        clear c8
        by_cases c9 : (a1 : Int).toNat ≤ 281474976710656
        · rw [if_pos c9] at H
          have c9b0 := eq_true c9
          have c9b1 : decide ((a1 : Int).toNat ≤ 281474976710656) = true := decide_eq_true c9
          clear c9
          obtain ⟨y759, hy759⟩ : ∃ y_ : List Int, y_ = (List.replicate (a1 : Int).toNat 0) := ⟨_, rfl⟩
          replace H : (if y759.length + l0.length < 140737488355328 then ((nat_Read.f k (y759 ++ l0)).bind fun bt765 => ((nat_Bytes.f k t755 (l0.length : Int)).bind fun bt769 => (if t756 = 0 then (if bt765.2 = 0 then (if bt769.2 = true then (if (strOfNums bt769.1).toList = (strOfNums l0).toList then ((nat_Cmp.f k t755 bt765.1).bind fun t773 => (some (t773 == 0))) else (none)) else (none)) else (none)) else (none)))) else (none)) = some r := by first | (rw [hy759]; with_reducible exact H) | (have H2_ := (Option.bind_some _ _).symm.trans H; rw [hy759]; with_reducible exact H2_) | (have H2_ := (Option.bind_some _ _).symm.trans H; with_reducible exact H2_) | with_reducible exact H | (rw [hy759]; exact H) | exact H
          have Ny759 := Aside0.mk hy759
          clear hy759
          by_cases c10 : y759.length + l0.length < 140737488355328
          · rw [if_pos c10] at H
            have LMc10 := Aside0.mk c10
            clear c10
            obtain ⟨y762, hy762⟩ : ∃ y_ : List Int, y_ = (y759 ++ l0) := ⟨_, rfl⟩
            replace H : ((nat_Read.f k y762).bind fun bt765 => ((nat_Bytes.f k t755 (l0.length : Int)).bind fun bt769 => (if t756 = 0 then (if bt765.2 = 0 then (if bt769.2 = true then (if (strOfNums bt769.1).toList = (strOfNums l0).toList then ((nat_Cmp.f k t755 bt765.1).bind fun t773 => (some (t773 == 0))) else (none)) else (none)) else (none)) else (none)))) = some r := by first | (rw [hy762]; with_reducible exact H) | (have H2_ := (Option.bind_some _ _).symm.trans H; rw [hy762]; with_reducible exact H2_) | (have H2_ := (Option.bind_some _ _).symm.trans H; with_reducible exact H2_) | with_reducible exact H | (rw [hy762]; exact H) | exact H
            have Ny762 := Aside0.mk hy762
            clear hy762
            replace H := Option.bind_eq_some_iff.mp H
            obtain ⟨⟨t765, t766⟩, A110, H⟩ := H
            replace H : ((nat_Bytes.f k t755 (l0.length : Int)).bind fun bt769 => (if t756 = 0 then (if t766 = 0 then (if bt769.2 = true then (if (strOfNums bt769.1).toList = (strOfNums l0).toList then ((nat_Cmp.f k t755 t765).bind fun t773 => (some (t773 == 0))) else (none)) else (none)) else (none)) else (none))) = some r := H
            have A11 := Aside0.mk A110
            clear A110
            replace H := Option.bind_eq_some_iff.mp H
            obtain ⟨⟨t769, t770⟩, A120, H⟩ := H
            replace H : (if t756 = 0 then (if t766 = 0 then (if t770 = true then (if (strOfNums t769).toList = (strOfNums l0).toList then ((nat_Cmp.f k t755 t765).bind fun t773 => (some (t773 == 0))) else (none)) else (none)) else (none)) else (none)) = some r := H
            have A12 := Aside0.mk A120
            clear A120
            by_cases c13 : t756 = 0
            · rw [if_pos c13] at H
              have c13b0 : (t756 == 0) = true := beq_iff_eq.mpr c13
              have c13b1 : (t756 != 0) = false := bne_eq_false_iff_eq.mpr c13
              clear c13
              by_cases c14 : t766 = 0
              · rw [if_pos c14] at H
                have c14b0 : (t766 == 0) = true := beq_iff_eq.mpr c14
                have c14b1 : (t766 != 0) = false := bne_eq_false_iff_eq.mpr c14
                clear c14
                by_cases c15 : t770 = true
                · subst c15
                  have H1 : (if (strOfNums t769).toList = (strOfNums l0).toList then ((nat_Cmp.f k t755 t765).bind fun t773 => (some (t773 == 0))) else (none)) = some r := by rw [if_pos rfl] at H; exact H
                  clear H
                  have H := H1
                  clear H1
                  by_cases c16 : (strOfNums t769).toList = (strOfNums l0).toList
                  · rw [if_pos c16] at H
                    have c16b0 : ((strOfNums t769).toList == (strOfNums l0).toList) = true := beq_iff_eq.mpr c16
                    have c16b1 : ((strOfNums t769).toList != (strOfNums l0).toList) = false := bne_eq_false_iff_eq.mpr c16
                    clear c16
                    replace H := Option.bind_eq_some_iff.mp H
                    obtain ⟨t773, A170, H⟩ := H
                    replace H : (some (t773 == 0)) = some r := H
                    have A17 := Aside0.mk A170
                    clear A170
                    obtain rfl := Option.some.inj H
                    go_enter Try.func9, Try.ntmps9
                    go_wp2_with (first | ((with_reducible refine gate_callee (f := 17) rfl ?_); refine goesL_ (some 11) rfl rfl Try.func17 (by kernel_rfl) rfl #[] rfl (by (try simp only [List.map_toArray, List.map_cons, List.map_nil]); first | done | rfl | (simp only [List.length_drop, List.length_take]; rfl)) ?_; (with_reducible refine (latchkeylaw01_Awake.calls k  true _ A3.out).mono ?_); rintro e w18 ⟨rfl, hb⟩; refine ⟨_, rfl, ?_⟩; have n0_ := Aside0.mk (below_step (by repeat (first | (with_reducible first | exact HB.out | apply below_alloc | apply pw_below_drewN | apply below_drew1) | exact HB.out)) hb); clear HB; have HB := n0_; clear n0_; (try clear hb); (try clear hb2); (try clear hk); (try clear hi)) | ((with_reducible refine gate_callee (f := 33) rfl ?_); refine goesL_ (some 21) rfl rfl Try.func33 (by kernel_rfl) rfl #[.slice A0 l0.length c0] rfl (by (try simp only [List.map_toArray, List.map_cons, List.map_nil]); first | done | rfl | (simp only [List.length_drop, List.length_take]; rfl)) ?_; (with_reducible refine (nat_Read.calls k _ _ l0 t755 t756 _ ?side1 ?side2 A7.out).mono ?_); (case side1 => repeat (first | exact (Kd.C_below HR0.out HB.out) | (with_reducible refine Kd.C_alloc ?_ _) | (with_reducible refine Kd.C_drewN ?_ _) | (with_reducible refine Kd.C_drew ?_))); (case side2 => exact HC0.out); rintro e w19 ⟨v757, rfl, ho0, hb⟩; refine ⟨_, rfl, ?_⟩; have n0_ := Aside0.mk (Kd.R_lower ho0 (below_size (by repeat (first | (with_reducible first | exact HB.out | apply below_alloc | apply pw_below_drewN | apply below_drew1) | exact HB.out)))); have n1_ := Aside0.mk (below_step (by repeat (first | (with_reducible first | exact HB.out | apply below_alloc | apply pw_below_drewN | apply below_drew1) | exact HB.out)) hb); clear HB; have HO758 := n0_; have HB := n1_; clear n0_ n1_; (try clear hb); (try clear hb2); (try clear hk); (try clear hi); (try clear ho0)) | ((with_reducible refine gate_dst (N := 26) rfl ?_); refine R_make_k .u8 (Kd.int .u8) _ 5 rfl (N := 26) rfl 46 _ _ rfl a1 rfl rfl Try.underlying46 (.int .u8 0) 1 info5 rfl (by decide) (by omega) 0 (ok := fun _ => True) (okp := fun _ => True) rfl (fun _ hk => hk) trivial (of_decide_eq_true (by first | (with_reducible assumption) | assumption)) (Nat.le_trans (Nat.mul_le_mul_right _ (of_decide_eq_true (by first | (with_reducible assumption) | assumption) : a1.toNat ≤ 281474976710656)) (by omega)) (Below.refl _ _) (Nat.le_refl _) ?_; intro v760 w20 ho21 hb hg_ hnew_; clear hg_ hnew_; (first | rw [← Ny759.out] at ho21 | (simp only [Int.reduceToNat] at ho21; rw [← Ny759.out] at ho21)); have n0_ := Aside0.mk (Kd.R_below (by (with_reducible repeat (first | apply Kd.R_alloc | apply Kd.R_drewN | apply Kd.R_drew)); exact HO758.out) hb); have n1_ := Aside0.mk (Kd.R_lower ho21 (below_size (by repeat (first | (with_reducible first | exact HB.out | apply below_alloc | apply pw_below_drewN | apply below_drew1) | exact HB.out)))); have n2_ := Aside0.mk (below_step (by repeat (first | (with_reducible first | exact HB.out | apply below_alloc | apply pw_below_drewN | apply below_drew1) | exact HB.out)) hb); clear HO758; clear HB; have HO758 := n0_; have HO761 := n1_; have HB := n2_; clear n0_ n1_ n2_; clear hb ho21) | ((with_reducible refine gate_builtin (b := .append) (xs := #[.tmp 26, .tmp 27]) rfl ?_); at_builtin; refine Kd.R_append_rows (Kd.int .u8) (w0 := w) w.heap.size rfl (.tmp 26) (.tmp 27) 46 5 (.int .u8 0) 1 rfl Try.underlying46 info5 rfl (by decide) (by omega) v760 y759 l0 _ _ _ (fun _ => True) (fun _ => False) rfl rfl ?aO ?aR (fun _ _ h => h) (fun _ h => h.elim) ?aF ?aB ?aS ?aL ?_; (case aR => repeat (first | exact (Kd.C_below HR0.out HB.out) | (with_reducible refine Kd.C_alloc ?_ _) | (with_reducible refine Kd.C_drewN ?_ _) | (with_reducible refine Kd.C_drew ?_))); (case aB => exact (by repeat (first | (with_reducible first | exact HB.out | apply below_alloc | apply pw_below_drewN | apply below_drew1) | exact HB.out))); (case aF => exact (fun _ _ => trivial)); (case aO => exact (by (with_reducible repeat (first | apply Kd.R_alloc | apply Kd.R_drewN | apply Kd.R_drew)); exact HO761.out)); (case aS => exact (below_size (by repeat (first | (with_reducible first | exact HB.out | apply below_alloc | apply pw_below_drewN | apply below_drew1) | exact HB.out)))); (case aL => have := LMc10.out; omega); intro v763 w22 ho hb hg hat; rw [← Ny762.out] at ho; have n0_ := Aside0.mk (Kd.R_over' (by (with_reducible repeat (first | apply Kd.R_alloc | apply Kd.R_drewN | apply Kd.R_drew)); exact HO758.out) (Kd.R_typed (by (with_reducible repeat (first | apply Kd.R_alloc | apply Kd.R_drewN | apply Kd.R_drew)); exact HO761.out)) (by decide) hg); have n1_ := Aside0.mk (hb); have n2_ := Aside0.mk (ho); clear HO758; clear HB; clear HO761; have HO758 := n0_; have HB := n1_; have HO764 := n2_; clear n0_ n1_ n2_; clear ho hb hg hat; obtain ⟨Ao23, co23, eo23⟩ := Kd.R_slice HO764.out; subst eo23) | ((with_reducible refine gate_callee (f := 33) rfl ?_); refine goesL_ (some 29) rfl rfl Try.func33 (by kernel_rfl) rfl #[.slice Ao23 y762.length co23] rfl (by (try simp only [List.map_toArray, List.map_cons, List.map_nil]); first | done | rfl | (simp only [List.length_drop, List.length_take]; rfl)) ?_; (with_reducible refine (nat_Read.calls k _ _ y762 t765 t766 _ ?side1 ?side2 A11.out).mono ?_); (case side1 => repeat (first | exact (Kd.R_reads' HO764.out).2.2 | (with_reducible refine Kd.C_alloc ?_ _) | (with_reducible refine Kd.C_drewN ?_ _) | (with_reducible refine Kd.C_drew ?_))); (case side2 => exact (Kd.R_reads' HO764.out).2.1); rintro e w24 ⟨v767, rfl, ho0, hb⟩; refine ⟨_, rfl, ?_⟩; have n0_ := Aside0.mk (Kd.R_elder' (by (with_reducible repeat (first | apply Kd.R_alloc | apply Kd.R_drewN | apply Kd.R_drew)); exact HO758.out) (Kd.R_base ho0) hb); have n1_ := Aside0.mk (Kd.R_below (by (with_reducible repeat (first | apply Kd.R_alloc | apply Kd.R_drewN | apply Kd.R_drew)); exact HO764.out) hb); have n2_ := Aside0.mk (Kd.R_lower (Kd.R_new' ho0 (Kd.R_lt (by (with_reducible repeat (first | apply Kd.R_alloc | apply Kd.R_drewN | apply Kd.R_drew)); exact HO758.out))) (below_size (by repeat (first | (with_reducible first | exact HB.out | apply below_alloc | apply pw_below_drewN | apply below_drew1) | exact HB.out)))); have n3_ := Aside0.mk (below_step (by repeat (first | (with_reducible first | exact HB.out | apply below_alloc | apply pw_below_drewN | apply below_drew1) | exact HB.out)) hb); clear HO758; clear HO764; clear HB; have HO758 := n0_; have HO764 := n1_; have HO768 := n2_; have HB := n3_; clear n0_ n1_ n2_ n3_; (try clear hb); (try clear hb2); (try clear hk); (try clear hi); (try clear ho0); obtain ⟨Ao25, co25, eo25⟩ := Kd.R_slice HO758.out; subst eo25) | ((with_reducible refine gate_callee (f := 35) rfl ?_); refine goesL_ (some 36) rfl rfl Try.func35 (by kernel_rfl) rfl #[.slice Ao25 t755.length co25, .int .i64 (l0.length : Int)] rfl (by (try simp only [List.map_toArray, List.map_cons, List.map_nil]); first | done | rfl | (simp only [List.length_drop, List.length_take]; rfl)) ?_; (with_reducible refine (nat_Bytes.calls k _ _ t755 (l0.length : Int) t769 true _ ?side1 ?side2 A12.out).mono ?_); (case side1 => repeat (first | exact (Kd.R_reads' HO758.out).2.2 | (with_reducible refine Kd.C_alloc ?_ _) | (with_reducible refine Kd.C_drewN ?_ _) | (with_reducible refine Kd.C_drew ?_))); (case side2 => exact (Kd.R_reads' HO758.out).2.1); rintro e w26 ⟨v771, rfl, ho0, hb⟩; refine ⟨_, rfl, ?_⟩; have n0_ := Aside0.mk (Kd.R_below (by (with_reducible repeat (first | apply Kd.R_alloc | apply Kd.R_drewN | apply Kd.R_drew)); exact HO758.out) hb); have n1_ := Aside0.mk (Kd.R_elder' (by (with_reducible repeat (first | apply Kd.R_alloc | apply Kd.R_drewN | apply Kd.R_drew)); exact HO764.out) (Kd.R_base ho0) hb); have n2_ := Aside0.mk (Kd.R_below (by (with_reducible repeat (first | apply Kd.R_alloc | apply Kd.R_drewN | apply Kd.R_drew)); exact HO768.out) hb); have n3_ := Aside0.mk (Kd.R_lower (Kd.R_new' ho0 (Kd.R_lt (by (with_reducible repeat (first | apply Kd.R_alloc | apply Kd.R_drewN | apply Kd.R_drew)); exact HO764.out))) (below_size (by repeat (first | (with_reducible first | exact HB.out | apply below_alloc | apply pw_below_drewN | apply below_drew1) | exact HB.out)))); have n4_ := Aside0.mk (below_step (by repeat (first | (with_reducible first | exact HB.out | apply below_alloc | apply pw_below_drewN | apply below_drew1) | exact HB.out)) hb); clear HO758; clear HO764; clear HO768; clear HB; have HO758 := n0_; have HO764 := n1_; have HO768 := n2_; have HO772 := n3_; have HB := n4_; clear n0_ n1_ n2_ n3_ n4_; (try clear hb); (try clear hb2); (try clear hk); (try clear hi); (try clear ho0); have hcv27 := own_string (P := Try.prog) Try.underlying46 Try.underlying5 Try.underlying9 (Kd.own_of_R HO772.out); have hcv27d := fun nq_ => own_string (P := Try.prog) Try.underlying46 Try.underlying5 Try.underlying9 (Kd.own_of_R (Kd.R_drewN HO772.out nq_)); have hcv28 := Kd.C_string (P := Try.prog) (A := A0) (c := c0) Try.underlying46 Try.underlying5 Try.underlying9 (Kd.C_below HR0.out HB.out); obtain ⟨Ao29, co29, eo29⟩ := Kd.R_slice HO768.out; subst eo29) | (go_at_call 26; (with_reducible refine (nat_Cmp.calls k _ _ t755 _ _ t765 t773 _ ?side1 ?side2 ?side3 ?side4 A17.out).mono ?_); (case side1 => repeat (first | exact (Kd.R_reads' HO758.out).2.2 | (with_reducible refine Kd.C_alloc ?_ _) | (with_reducible refine Kd.C_drewN ?_ _) | (with_reducible refine Kd.C_drew ?_))); (case side2 => exact (Kd.R_reads' HO758.out).2.1); (case side3 => repeat (first | exact (Kd.R_reads' HO768.out).2.2 | (with_reducible refine Kd.C_alloc ?_ _) | (with_reducible refine Kd.C_drewN ?_ _) | (with_reducible refine Kd.C_drew ?_))); (case side4 => exact (Kd.R_reads' HO768.out).2.1); rintro e w30 ⟨rfl, hb⟩; have n0_ := Aside0.mk (Kd.R_below (by (with_reducible repeat (first | apply Kd.R_alloc | apply Kd.R_drewN | apply Kd.R_drew)); exact HO758.out) hb); have n1_ := Aside0.mk (Kd.R_below (by (with_reducible repeat (first | apply Kd.R_alloc | apply Kd.R_drewN | apply Kd.R_drew)); exact HO764.out) hb); have n2_ := Aside0.mk (Kd.R_below (by (with_reducible repeat (first | apply Kd.R_alloc | apply Kd.R_drewN | apply Kd.R_drew)); exact HO768.out) hb); have n3_ := Aside0.mk (Kd.R_below (by (with_reducible repeat (first | apply Kd.R_alloc | apply Kd.R_drewN | apply Kd.R_drew)); exact HO772.out) hb); have n4_ := Aside0.mk (below_step (by repeat (first | (with_reducible first | exact HB.out | apply below_alloc | apply pw_below_drewN | apply below_drew1) | exact HB.out)) hb); clear HO758; clear HO764; clear HO768; clear HO772; clear HB; have HO758 := n0_; have HO764 := n1_; have HO768 := n2_; have HO772 := n3_; have HB := n4_; clear n0_ n1_ n2_ n3_ n4_; (try clear hb); (try clear hb2); (try clear hk); (try clear hi)))
                    go_ret
                    exact ⟨by first | rfl | (simp [errW_none, errW_some] <;> rfl) | (simp [*, errW_none, errW_some] <;> rfl), by repeat (first | (with_reducible first | exact HB.out | apply below_alloc | apply pw_below_drewN | apply below_drew1) | exact HB.out)⟩
                  · rw [if_neg c16] at H
                    exact absurd H (by simp)
                · replace c15 := Bool.eq_false_iff.mpr c15
                  subst c15
                  have H1 : (none) = some r := by rw [if_neg (show ¬ (false = true) by decide)] at H; exact H
                  clear H
                  have H := H1
                  clear H1
                  exact absurd H (by simp)
              · rw [if_neg c14] at H
                exact absurd H (by simp)
            · rw [if_neg c13] at H
              exact absurd H (by simp)
          · rw [if_neg c10] at H
            exact absurd H (by simp)
        · rw [if_neg c9] at H
          exact absurd H (by simp)
      · rw [if_neg c8] at H
        exact absurd H (by simp)
  · replace c4 := Bool.eq_false_iff.mpr c4
    subst c4
    have H1 : (none) = some r := by rw [if_neg (show ¬ (false = true) by decide)] at H; exact H
    clear H
    have H := H1
    clear H1
    exact absurd H (by simp)

/-- THE ONE PURE STATEMENT of latchkeylaw01_NatTexts: yours. -/
def latchkeylaw01_NatTexts.Pure : Prop := ∀ (l0 : List Int) (a1 : Int), l0.length ≤ maxLen → l0.length * 1 ≤ 140737488351232 → (∀ x ∈ l0, (Lit.int .u8 x).wf = true) → (Lit.int .u8 a1).wf = true → ∃ k, latchkeylaw01_NatTexts.f k l0 a1 = some true
theorem latchkeylaw01_NatTexts.walk (P : latchkeylaw01_NatTexts.Pure) (a0 : Option Addr) (len0 cap0 : Nat) (z0 : List Int) (a1 : Int) (w : World) (w0 : (a0 = none ∧ len0 = 0 ∧ cap0 = 0 ∧ z0 = []) ∨ ∃ x, a0 = some x ∧ len0 ≤ cap0 ∧ cap0 ≤ maxLen ∧ z0.length = cap0 ∧ (∀ i, i < z0.length → w.cell? (x.add i) = some (.int .u8 (z0.getD i 0))) ∧ ∀ n ∈ z0, (Lit.int .u8 n).wf = true) (y0 : len0 * 1 ≤ 140737488351232) (w1 : (Lit.int .u8 a1).wf = true) :
    Calls Try.prog 9 #[.slice a0 len0 cap0, .int .u8 a1] w fun e w' => e = .returned (.bool true) ∧ Below w.heap.size w w' := by
  obtain ⟨l0, rfl, hr0, hm0, hw0, hc0⟩ := ReadsInt.ofRowC w0
  obtain ⟨k, h⟩ := P l0 a1 hm0 y0 hw0 w1
  refine (latchkeylaw01_NatTexts.calls k _ _ l0 a1 true w (Kd.C_of_reads (d := (0 : Int)) (h1 := fun _ => rfl) hr0) hc0 h).mono ?_
  rintro e w' ⟨rfl, hd⟩
  exact ⟨rfl, hd⟩

end Go.Proofs.Ytbnbofflnpppfaa.B
