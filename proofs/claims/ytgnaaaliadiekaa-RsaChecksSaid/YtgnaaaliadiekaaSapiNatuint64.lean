/- Written by xp.py, a program of this session, over the print of the kit: what it says is checked by its build. -/
import Derived.Test.YtgnaaaliadiekaaBx0
import Derived.Lib.LazyBuf
namespace Go.Proofs.Ytgnaaaliadiekaa.B
open Go.RowKit Go.Proofs.YtgnaaaliadiekaaW.PrintWords Go.Proofs.YtgnaaaliadiekaaW.PrintLast Go.Proofs.YtgnaaaliadiekaaW.PrintMore
attribute [local go_sem] max2_int min2_int max_two min_two max_three min_three max_four min_four   -- for this text's walks alone
attribute [local go_sem] run_Add64 run_Add64_0 run_Sub64 run_Sub64_0
set_option linter.unusedVariables false
set_option linter.unusedSimpArgs false

def api_Nat_uint64.f (l0 : List Int) : Option (List Int) := if l0.length < 17592186044416 then some l0 else none
set_option maxHeartbeats 4000000 in
set_option maxRecDepth 100000 in
theorem api_Nat_uint64.calls (A0 : Option Addr) (c0 : Nat) (l0 : List Int) (r : List Int) (w : World) (hr0 : Kd.C (Kd.int .u64) w A0 l0.length l0) (hc0 : l0.length ≤ c0) (h : api_Nat_uint64.f l0 = some r) :
    Calls Try.prog 76 #[.slice A0 l0.length c0] w fun e w' => ∃ v0_ : Value, e = .returned (v0_) ∧ Kd.R (Kd.int .u64) 61 w' w.heap.size (fun _ => True) v0_ r ∧ Below w.heap.size w w' := by
  unfold api_Nat_uint64.f at h
  by_cases hl : l0.length < 17592186044416
  · rw [if_pos hl] at h
    injection h with h
    subst h
    have HR := Aside0.mk hr0
    have HL := Aside0.mk hl
    clear hr0 hc0 hl
    cases A0 with
    | none =>
      have hl0 : l0 = [] := by
        rcases Nat.eq_zero_or_pos l0.length with h0 | h0
        · exact List.eq_nil_of_length_eq_zero h0
        · obtain ⟨ad, h, _⟩ := HR.out.2.2 h0
          cases h
      subst hl0
      have hq : (binOp .eql 23 (.slice none 0 c0) (.slice none 0 0)).run Try.prog w = .ok (.bool true) w := run_eql_slice_nil (P := Try.prog) w 23 61 none ([] : List Int).length c0 Try.underlying23
      go_enter Try.func76, Try.ntmps76
      go_wp2
      go_ret
      exact ⟨_, rfl, Kd.R_nil _ _ _ _ _, Below.refl _ _⟩
    | some ad =>
      have hq := run_eql_slice_nil (P := Try.prog) w 23 61 (some ad) l0.length c0 Try.underlying23
      go_enter Try.func76, Try.ntmps76
      go_wp2_with ((with_reducible refine gate_builtin (b := .append) (xs := #[.tmp 5, .tmp 6]) rfl ?_); at_builtin; refine Kd.R_append_rows (Kd.int .u64) (w0 := w) w.heap.size rfl (.tmp 5) (.tmp 6) 23 61 (.int .u64 0) 8 rfl Try.underlying23 info61 rfl (by decide) (by omega) (.slice (some ⟨w.heap.size, 0, none⟩) 0 0) [] l0 (some ad) l0.length c0 (fun _ => True) (fun _ => False) rfl rfl ?aO ?aR (fun _ _ h => h) (fun _ h => h.elim) (fun _ _ => trivial) ?aB ?aS ?aL ?_; (case aO => exact ⟨fun _ _ => trivial, [], World.ownsRow_made w #[] 0 (Nat.le_refl _) (Nat.zero_le _) rfl, Reps.none _ _⟩); (case aR => exact Kd.C_alloc HR.out _); (case aB => exact below_alloc (Below.refl _ _) _); (case aS => simp); (case aL => have := HL.out; simp; omega); intro v1 w1 ho hb hg _; have HO1 := Aside0.mk ho; have HB1 := Aside0.mk hb; clear ho hb hg)
      go_ret
      exact ⟨_, rfl, HO1.out, HB1.out⟩
  · rw [if_neg hl] at h
    cases h

end Go.Proofs.Ytgnaaaliadiekaa.B
