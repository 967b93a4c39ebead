/- Written by xp.py, a program of this session, over the print of the kit: what it says is checked by its build. -/
import Derived.Test.YtgnaaaliadiekaaBx0
namespace Go.Proofs.Ytgnaaaliadiekaa.B
open Go.RowKit Go.Proofs.YtgnaaaliadiekaaW.PrintWords Go.Proofs.YtgnaaaliadiekaaW.PrintLast Go.Proofs.YtgnaaaliadiekaaW.PrintMore
attribute [local go_sem] max2_int min2_int max_two min_two max_three min_three max_four min_four   -- for this text's walks alone
attribute [local go_sem] run_Add64 run_Add64_0 run_Sub64 run_Sub64_0
set_option linter.unusedVariables false
set_option linter.unusedSimpArgs false

/-! ### latchkeyhand12_Signer_Curve: function 33 -/
def latchkeyhand12_Signer_Curve.f (a0_0 : Int) (a0_1 : Int) : Option (Int) := if (Int.tmod a0_0 16) = 15 then (some (-1)) else (some (wrap64 (Int.tmod a0_0 3)))
set_option maxHeartbeats 8000000 in
set_option maxRecDepth 100000 in
theorem latchkeyhand12_Signer_Curve.calls (a0_0 : Int) (a0_1 : Int) (r : Int) (w : World) (h : latchkeyhand12_Signer_Curve.f a0_0 a0_1 = some r) :
    Calls Try.prog 33 #[.agg #[.int .u8 a0_0, .int .u8 a0_1]] w fun e w' => e = .returned (.int .i64 r) ∧ Below w.heap.size w w' := by
  have hu42 := Try.underlying42
  have HB := Aside0.mk (Below.refl w.heap.size w)
  have H : (if (Int.tmod a0_0 16) = 15 then (some (-1)) else (some (wrap64 (Int.tmod a0_0 3)))) = some r := h
  clear h
  by_cases c2 : (Int.tmod a0_0 16) = 15
  · rw [if_pos c2] at H
    have c2b0 : ((Int.tmod a0_0 16) == 15) = true := beq_iff_eq.mpr c2
    have c2b1 : ((Int.tmod a0_0 16) != 15) = false := bne_eq_false_iff_eq.mpr c2
    clear c2
    obtain rfl := Option.some.inj H
    go_enter Try.func33, Try.ntmps33
    go_wp2_with (first | ((with_reducible refine gate_dst (N := 1) rfl ?_); refine box_event ?hg (N := 1) ?hd (cs := #[.int .u8 a0_0, .int .u8 a0_1]) (t := 42) ?hr ?_; (case hd => rfl); (case hg => rfl); (case hr => first | (go_simp; done) | (go_simp; rfl)); intro gb1001 hg w3 hbox hb; have n0_ := Aside0.mk (below_step (by repeat (first | (with_reducible first | exact HB.out | apply below_alloc | apply pw_below_drewN | apply below_drew1) | exact HB.out)) hb); have n1_ := Aside0.mk (hbox); have n2_ := Aside0.mk ((by rw [hg]; exact (below_size (by repeat (first | (with_reducible first | exact HB.out | apply below_alloc | apply pw_below_drewN | apply below_drew1) | exact HB.out))) : w.heap.size ≤ gb1001)); have n3_ := Aside0.mk ((by rw [hg]; exact (below_size (by repeat (first | (with_reducible first | exact HB.out | apply below_alloc | apply pw_below_drewN | apply below_drew1) | exact HB.out))) : w.heap.size ≤ gb1001)); clear HB; have HB := n0_; have BK1001 := n1_; have GW1001 := n2_; have GE1001 := n3_; clear n0_ n1_ n2_ n3_; clear hb hbox hg; have hcz4_0 : w3.cell? ⟨gb1001, 0, none⟩ = some (.int .u8 a0_0) := (blk_cell BK1001.out 0).trans rfl; have hcz4_1 : w3.cell? ⟨gb1001, 1, none⟩ = some (.int .u8 a0_1) := (blk_cell BK1001.out 1).trans rfl; have hfz4_0 := blk_frozen BK1001.out 0; have hfz4_1 := blk_frozen BK1001.out 1))
    go_ret
    exact ⟨by first | rfl | (simp [errW_none, errW_some] <;> rfl) | (simp [*, errW_none, errW_some] <;> rfl), by repeat (first | (with_reducible first | exact HB.out | apply below_alloc | apply pw_below_drewN | apply below_drew1 | refine below_set ?_ GE1001.out) | exact HB.out)⟩
  · rw [if_neg c2] at H
    have c2b0 : ((Int.tmod a0_0 16) == 15) = false := beq_eq_false_iff_ne.mpr c2
    have c2b1 : ((Int.tmod a0_0 16) != 15) = true := bne_iff_ne.mpr c2
    obtain rfl := Option.some.inj H
    go_enter Try.func33, Try.ntmps33
    go_wp2_with (first | ((with_reducible refine gate_dst (N := 1) rfl ?_); refine box_event ?hg (N := 1) ?hd (cs := #[.int .u8 a0_0, .int .u8 a0_1]) (t := 42) ?hr ?_; (case hd => rfl); (case hg => rfl); (case hr => first | (go_simp; done) | (go_simp; rfl)); intro gb1001 hg w5 hbox hb; have n0_ := Aside0.mk (below_step (by repeat (first | (with_reducible first | exact HB.out | apply below_alloc | apply pw_below_drewN | apply below_drew1) | exact HB.out)) hb); have n1_ := Aside0.mk (hbox); have n2_ := Aside0.mk ((by rw [hg]; exact (below_size (by repeat (first | (with_reducible first | exact HB.out | apply below_alloc | apply pw_below_drewN | apply below_drew1) | exact HB.out))) : w.heap.size ≤ gb1001)); have n3_ := Aside0.mk ((by rw [hg]; exact (below_size (by repeat (first | (with_reducible first | exact HB.out | apply below_alloc | apply pw_below_drewN | apply below_drew1) | exact HB.out))) : w.heap.size ≤ gb1001)); clear HB; have HB := n0_; have BK1001 := n1_; have GW1001 := n2_; have GE1001 := n3_; clear n0_ n1_ n2_ n3_; clear hb hbox hg; have hcz6_0 : w5.cell? ⟨gb1001, 0, none⟩ = some (.int .u8 a0_0) := (blk_cell BK1001.out 0).trans rfl; have hcz6_1 : w5.cell? ⟨gb1001, 1, none⟩ = some (.int .u8 a0_1) := (blk_cell BK1001.out 1).trans rfl; have hfz6_0 := blk_frozen BK1001.out 0; have hfz6_1 := blk_frozen BK1001.out 1))
    go_ret
    exact ⟨by first | rfl | (simp [errW_none, errW_some] <;> rfl) | (simp [*, errW_none, errW_some] <;> rfl), by repeat (first | (with_reducible first | exact HB.out | apply below_alloc | apply pw_below_drewN | apply below_drew1 | refine below_set ?_ GE1001.out) | exact HB.out)⟩

end Go.Proofs.Ytgnaaaliadiekaa.B
