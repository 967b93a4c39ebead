/- The law RsaChecks, by hand. Written by hand/rsachecks.py. -/
import Derived.Test.YtgnaaaliadiekaaBx0
import Derived.Test.YtgnaaaliadiekaaBx27
import Derived.Test.YtgnaaaliadiekaaBx48
import Derived.Test.YtgnaaaliadiekaaQH5
import Derived.Test.YtgnaaaliadiekaaQH7
import Derived.Test.YtgnaaaliadiekaaQK1
import Derived.Test.YtgnaaaliadiekaaQH8a
import Derived.Test.YtgnaaaliadiekaaQH8b
import Derived.Test.YtgnaaaliadiekaaQH8c
import Derived.Test.YtgnaaaliadiekaaQH8d
namespace Go.Proofs.Ytgnaaaliadiekaa.B
open Go.RowKit Go.Proofs.YtgnaaaliadiekaaW.PrintWords Go.Proofs.YtgnaaaliadiekaaW.PrintLast Go.Proofs.YtgnaaaliadiekaaW.PrintMore
set_option linter.unusedVariables false
set_option linter.unusedSimpArgs false
set_option maxHeartbeats 4000000 in
set_option maxRecDepth 100000 in
theorem law09_RsaChecks.calls (k : Nat) (A0 : Option Addr) (c0 : Nat) (l0 : List Int) (A1 : Option Addr) (c1 : Nat) (l1 : List Int) (A2 : Option Addr) (c2 : Nat) (l2 : List Int) (s at_ : Int) (n e d n2 e2 : List Int) (w : World) (hr_l0 : Kd.C (Kd.int .u64) w A0 l0.length l0) (hc_l0 : l0.length ≤ c0) (hr_l1 : Kd.C (Kd.int .u64) w A1 l1.length l1) (hc_l1 : l1.length ≤ c1) (hr_l2 : Kd.C (Kd.int .u64) w A2 l2.length l2) (hc_l2 : l2.length ≤ c2) (hs0 : 0 ≤ s) (hs1 : s < 256) (ha0 : 0 ≤ at_) (ha1 : at_ < 65536) (hp : 0 < n2.length) (h1 : latchkeyhand12_rsa.f k s = some (n, e, d)) (h2 : latchkeyref01_Nat.f k n = some n2) (h3 : latchkeyref01_Nat.f k e = some e2)
    (rN rE : List Int) (hrN : rN = if 3 < s % 8 then n2.set (at_ % n2.length).toNat (Go.bits .xor .u64 (rd n2 (at_ % n2.length)) (IntKind.u64.wrap (1 * 2 ^ (at_ % 64).toNat))) else n2) (hrE : rE = if 1 < s % 4 then l2 else e2)
    (hg : (40 : Int) < l0.length ∨ (40 : Int) < l1.length ∨ (10 : Int) < l2.length ∨ KeyOk k l0 l1 ∧ KeyOk k rN rE ∧ KeyOk k l0 l2 ∧ KeyOk k rN rN) :
    Calls Try.prog 6 #[.agg #[.slice A0 l0.length c0, .slice A1 l1.length c1], .int .u8 s, .slice A2 l2.length c2, .int .u16 at_] w fun x w' => x = .returned (.bool true) ∧ Below w.heap.size w w' := by
  have H1 := Aside0.mk h1
  have H2 := Aside0.mk h2
  have H3 := Aside0.mk h3
  have HN := Aside0.mk hrN
  have HE := Aside0.mk hrE
  have HR_l0 := Aside0.mk hr_l0
  have HR_l1 := Aside0.mk hr_l1
  have HR_l2 := Aside0.mk hr_l2
  clear hr_l0 hr_l1 hr_l2
  clear h1 h2 h3 hrN hrE
  by_cases q0 : (40 : Int) < l0.length
  · clear hg
    go_enter Try.func6, Try.ntmps6
    go_wp2_with (first
      | (go_at_call 16; (with_reducible refine (law09_Awake.calls _).mono ?_); rintro x w0 ⟨rfl, hb⟩; have HB0 := Aside0.mk hb; have BK0 := Aside0.mk ((hb.block w.heap.size (by simp)).trans (World.alloc_heap_new w _)); have kz0 : w0.cell? ⟨w.heap.size, 0, none⟩ = some (.slice A0 l0.length c0) := (blk_cell BK0.out 0).trans rfl; have kz1 : w0.cell? ⟨w.heap.size, 1, none⟩ = some (.slice A1 l1.length c1) := (blk_cell BK0.out 1).trans rfl; clear hb))
    go_ret
    exact ⟨rfl, (by repeat (first | with_reducible exact Below.refl _ _ | with_reducible exact Aside0.out (by assumption) | with_reducible refine below_alloc ?_ _ | with_reducible refine pw_below_drewN ?_ _ | with_reducible refine below_drew1 ?_ | refine below_step ?_ (Aside0.out (by assumption))))⟩
  by_cases q1 : (40 : Int) < l1.length
  · clear hg
    go_enter Try.func6, Try.ntmps6
    go_wp2_with (first
      | (go_at_call 16; (with_reducible refine (law09_Awake.calls _).mono ?_); rintro x w0 ⟨rfl, hb⟩; have HB0 := Aside0.mk hb; have BK0 := Aside0.mk ((hb.block w.heap.size (by simp)).trans (World.alloc_heap_new w _)); have kz0 : w0.cell? ⟨w.heap.size, 0, none⟩ = some (.slice A0 l0.length c0) := (blk_cell BK0.out 0).trans rfl; have kz1 : w0.cell? ⟨w.heap.size, 1, none⟩ = some (.slice A1 l1.length c1) := (blk_cell BK0.out 1).trans rfl; clear hb))
    go_ret
    exact ⟨rfl, (by repeat (first | with_reducible exact Below.refl _ _ | with_reducible exact Aside0.out (by assumption) | with_reducible refine below_alloc ?_ _ | with_reducible refine pw_below_drewN ?_ _ | with_reducible refine below_drew1 ?_ | refine below_step ?_ (Aside0.out (by assumption))))⟩
  by_cases q2 : (10 : Int) < l2.length
  · clear hg
    go_enter Try.func6, Try.ntmps6
    go_wp2_with (first
      | (go_at_call 16; (with_reducible refine (law09_Awake.calls _).mono ?_); rintro x w0 ⟨rfl, hb⟩; have HB0 := Aside0.mk hb; have BK0 := Aside0.mk ((hb.block w.heap.size (by simp)).trans (World.alloc_heap_new w _)); have kz0 : w0.cell? ⟨w.heap.size, 0, none⟩ = some (.slice A0 l0.length c0) := (blk_cell BK0.out 0).trans rfl; have kz1 : w0.cell? ⟨w.heap.size, 1, none⟩ = some (.slice A1 l1.length c1) := (blk_cell BK0.out 1).trans rfl; clear hb))
    go_ret
    exact ⟨rfl, (by repeat (first | with_reducible exact Below.refl _ _ | with_reducible exact Aside0.out (by assumption) | with_reducible refine below_alloc ?_ _ | with_reducible refine pw_below_drewN ?_ _ | with_reducible refine below_drew1 ?_ | refine below_step ?_ (Aside0.out (by assumption))))⟩
  replace hg := ((hg.resolve_left q0).resolve_left q1).resolve_left q2
  by_cases q3 : 1 < s % 4
  · by_cases q4 : 3 < s % 8
    · exact law09_RsaChecks.case_a k A0 c0 l0 A1 c1 l1 A2 c2 l2 s at_ n e d n2 e2 w HR_l0.out hc_l0 HR_l1.out hc_l1 HR_l2.out hc_l2 hs0 hs1 ha0 ha1 hp H1.out H2.out H3.out rN rE HN.out HE.out q0 q1 q2 q3 q4 hg
    · exact law09_RsaChecks.case_b k A0 c0 l0 A1 c1 l1 A2 c2 l2 s at_ n e d n2 e2 w HR_l0.out hc_l0 HR_l1.out hc_l1 HR_l2.out hc_l2 hs0 hs1 ha0 ha1 hp H1.out H2.out H3.out rN rE HN.out HE.out q0 q1 q2 q3 q4 hg
  · by_cases q4 : 3 < s % 8
    · exact law09_RsaChecks.case_c k A0 c0 l0 A1 c1 l1 A2 c2 l2 s at_ n e d n2 e2 w HR_l0.out hc_l0 HR_l1.out hc_l1 HR_l2.out hc_l2 hs0 hs1 ha0 ha1 hp H1.out H2.out H3.out rN rE HN.out HE.out q0 q1 q2 q3 q4 hg
    · exact law09_RsaChecks.case_d k A0 c0 l0 A1 c1 l1 A2 c2 l2 s at_ n e d n2 e2 w HR_l0.out hc_l0 HR_l1.out hc_l1 HR_l2.out hc_l2 hs0 hs1 ha0 ha1 hp H1.out H2.out H3.out rN rE HN.out HE.out q0 q1 q2 q3 q4 hg
end Go.Proofs.Ytgnaaaliadiekaa.B
