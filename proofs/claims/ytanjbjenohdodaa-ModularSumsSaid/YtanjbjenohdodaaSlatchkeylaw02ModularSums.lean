/- Written by xp.py, a program of this session, over the print of the kit: what it says is checked by its build. -/
import Derived.Test.YtanjbjenohdodaaBx0
import Derived.Test.YtanjbjenohdodaaBx6
import Derived.Test.YtanjbjenohdodaaBx7
import Derived.Test.YtanjbjenohdodaaBx8
import Derived.Test.YtanjbjenohdodaaBx9
import Derived.Test.YtanjbjenohdodaaBx12
import Derived.Test.YtanjbjenohdodaaBx14
import Derived.Test.YtanjbjenohdodaaQH0
import Derived.Test.YtanjbjenohdodaaQH2
namespace Go.Proofs.Ytanjbjenohdodaa.B
open Go.RowKit Go.Proofs.YtanjbjenohdodaaW.PrintWords Go.Proofs.YtanjbjenohdodaaW.PrintLast Go.Proofs.YtanjbjenohdodaaW.PrintMore
attribute [local go_sem] max2_int min2_int max_two min_two max_three min_three max_four min_four   -- for this text's walks alone
attribute [local go_sem] run_Add64 run_Add64_0 run_Sub64 run_Sub64_0
set_option linter.unusedVariables false
set_option linter.unusedSimpArgs false

def Sums_clo1.f (k : Nat) (x n : List Int) : Option (List Int) := latchkeyref01_Mod.f k x n
set_option maxHeartbeats 4000000 in
set_option maxRecDepth 100000 in
theorem Sums_clo1.calls (k Bx Bn : Nat) (Ax : Option Addr) (cx : Nat) (x : List Int) (An : Option Addr) (cn : Nat) (n : List Int) (r : List Int) (w : World) (hb_x : Boxed w Bx 27 (.slice Ax x.length cx)) (hb_n : Boxed w Bn 27 (.slice An n.length cn)) (hr_x : Kd.C (Kd.int .i64) w Ax x.length x) (hc_x : x.length ≤ cx) (hr_n : Kd.C (Kd.int .i64) w An n.length n) (hc_n : n.length ≤ cn) (h : Sums_clo1.f k x n = some r) :
    Calls Try.prog 40 #[.pointer (some ⟨Bx, 0, none⟩), .pointer (some ⟨Bn, 0, none⟩)] w fun e w' => ∃ v, e = .returned v ∧ Kd.R (Kd.int .i64) 3 w' w.heap.size (fun _ => True) v r ∧ Below w.heap.size w w' := by
  have H0 := Aside0.mk (show latchkeyref01_Mod.f k x n = some r from h)
  clear h
  have hx_x := hb_x.cell
  have hx_n := hb_n.cell
  have HR_x := Aside0.mk hr_x
  have HR_n := Aside0.mk hr_n
  have HX_x := Aside0.mk hb_x
  have HX_n := Aside0.mk hb_n
  clear hr_x hr_n hb_x hb_n
  go_enter Try.func40, Try.ntmps40
  go_wp2_with (first
    | (go_at_call 17; (with_reducible refine (latchkeyref01_Mod.calls k _ _ x _ _ n r _ ?s0 ?c0 ?s1 ?c1 H0.out).mono ?_); (case s0 => exact (by repeat (first | with_reducible exact Aside0.out (by assumption) | with_reducible refine Kd.C_alloc ?_ _ | with_reducible refine Kd.C_drewN ?_ _ | with_reducible refine Kd.C_drew ?_ | refine Kd.C_below ?_ (Aside0.out (by assumption))))); (case c0 => assumption); (case s1 => exact (by repeat (first | with_reducible exact Aside0.out (by assumption) | with_reducible refine Kd.C_alloc ?_ _ | with_reducible refine Kd.C_drewN ?_ _ | with_reducible refine Kd.C_drew ?_ | refine Kd.C_below ?_ (Aside0.out (by assumption))))); (case c1 => assumption); rintro e w0 ⟨v, rfl, ho, hb⟩; obtain ⟨A0, c0, rfl⟩ := Kd.R_slice ho; have HC0 := Aside0.mk (Kd.R_reads' ho).2.2; have hc0 := (Kd.R_reads' ho).2.1; have HB0 := Aside0.mk hb; have HO0 := Aside0.mk ho; clear hb ho))
  go_ret
  exact ⟨_, rfl, Kd.R_lower HO0.out (below_size (by repeat (first | with_reducible exact Below.refl _ _ | with_reducible exact Aside0.out (by assumption) | with_reducible refine below_alloc ?_ _ | with_reducible refine pw_below_drewN ?_ _ | with_reducible refine below_drew1 ?_ | refine below_step ?_ (Aside0.out (by assumption))))), (by repeat (first | with_reducible exact Below.refl _ _ | with_reducible exact Aside0.out (by assumption) | with_reducible refine below_alloc ?_ _ | with_reducible refine pw_below_drewN ?_ _ | with_reducible refine below_drew1 ?_ | refine below_step ?_ (Aside0.out (by assumption))))⟩
set_option maxHeartbeats 4000000 in
set_option maxRecDepth 100000 in
theorem Sums_clo1T.calls (k Bx Bn : Nat) (Ax : Option Addr) (cx : Nat) (x : List Int) (An : Option Addr) (cn : Nat) (n : List Int) (Ad : Option Addr) (cd : Nat) (ld : List Int) (An : Option Addr) (cn : Nat) (ln : List Int) (e : Int) (w : World) (hb_x : Boxed w Bx 27 (.slice Ax x.length cx)) (hb_n : Boxed w Bn 27 (.slice An n.length cn)) (hr_x : Kd.C (Kd.int .i64) w Ax x.length x) (hc_x : x.length ≤ cx) (hr_n : Kd.C (Kd.int .i64) w An n.length n) (hc_n : n.length ≤ cn) (hr_ld : Kd.C (Kd.int .u64) w Ad ld.length ld) (hc_ld : ld.length ≤ cd) (h : law02_told.f k ld e ln (Sums_clo1.f k x n) = some true) :
    Calls Try.prog 15 #[.slice Ad ld.length cd, .int .i64 e, .slice An ln.length cn, .func (.func 40) #[] #[.pointer (some ⟨Bx, 0, none⟩), .pointer (some ⟨Bn, 0, none⟩)]] w fun e w' => e = .returned (.bool true) ∧ Below w.heap.size w w' := by
  unfold law02_told.f at h
  by_cases hn : ln.length = 0
  · rw [if_pos hn] at h
    obtain rfl := List.eq_nil_of_length_eq_zero hn
    obtain ⟨⟨rfl, hd⟩, -⟩ := bool_ite h
    obtain rfl := List.eq_nil_of_length_eq_zero hd
    clear h hn hd hb_x hb_n hr_x hr_n hr_ld
    go_enter Try.func15, Try.ntmps15
    go_wp2
    go_ret
    exact ⟨rfl, Below.refl _ _⟩
  · rw [if_neg hn] at h
    obtain ⟨rfl, h⟩ := bool_ite h
    obtain ⟨z, h1, h⟩ := Option.bind_eq_some_iff.mp h
    obtain ⟨y_, h2, h⟩ := Option.bind_eq_some_iff.mp h
    obtain ⟨s, h3, h⟩ := Option.bind_eq_some_iff.mp h
    obtain ⟨rfl, -⟩ := bool_ite h
    have hne : ((ln.length : Int) == 0) = false := beq_eq_false_iff_ne.2 (by omega)
    have H1 := Aside0.mk h1
    have H2 := Aside0.mk h2
    have H3 := Aside0.mk h3
    clear h h1 h2 h3 hn
    have HR_x := Aside0.mk hr_x
    have HR_n := Aside0.mk hr_n
    have HR_ld := Aside0.mk hr_ld
    have HX_x := Aside0.mk hb_x
    have HX_n := Aside0.mk hb_n
    clear hr_x hr_n hr_ld hb_x hb_n
    go_enter Try.func15, Try.ntmps15
    go_wp2_with (first
      | (go_at_call 40; (with_reducible refine (Sums_clo1.calls k (Bx) (Bn)  Ax cx x An cn n z _ ?b0 ?b1 ?s0 ?c0 ?s1 ?c1 H1.out).mono ?_); (case b0 => exact (by repeat (first | with_reducible exact Aside0.out (by assumption) | with_reducible refine Boxed.alloc ?_ _ | with_reducible refine Boxed.drewN ?_ _ | with_reducible refine Boxed.drew ?_ | refine box_step ?_ (Aside0.out (by assumption))))); (case b1 => exact (by repeat (first | with_reducible exact Aside0.out (by assumption) | with_reducible refine Boxed.alloc ?_ _ | with_reducible refine Boxed.drewN ?_ _ | with_reducible refine Boxed.drew ?_ | refine box_step ?_ (Aside0.out (by assumption))))); (case s0 => exact (by repeat (first | with_reducible exact Aside0.out (by assumption) | with_reducible refine Kd.C_alloc ?_ _ | with_reducible refine Kd.C_drewN ?_ _ | with_reducible refine Kd.C_drew ?_ | refine Kd.C_below ?_ (Aside0.out (by assumption))))); (case c0 => assumption); (case s1 => exact (by repeat (first | with_reducible exact Aside0.out (by assumption) | with_reducible refine Kd.C_alloc ?_ _ | with_reducible refine Kd.C_drewN ?_ _ | with_reducible refine Kd.C_drew ?_ | refine Kd.C_below ?_ (Aside0.out (by assumption))))); (case c1 => assumption); rintro e w1 ⟨v, rfl, ho, hb⟩; obtain ⟨A1, c1, rfl⟩ := Kd.R_slice ho; have HC1 := Aside0.mk (Kd.R_reads' ho).2.2; have hc1 := (Kd.R_reads' ho).2.1; have HB1 := Aside0.mk hb; have HO1 := Aside0.mk ho; clear hb ho)
      | (go_at_call 28; (with_reducible refine (latchkeyref01_Nat.calls k _ _ z y_ _ ?s0 ?c0 H2.out).mono ?_); (case s0 => exact (by repeat (first | with_reducible exact Aside0.out (by assumption) | with_reducible refine Kd.C_alloc ?_ _ | with_reducible refine Kd.C_drewN ?_ _ | with_reducible refine Kd.C_drew ?_ | refine Kd.C_below ?_ (Aside0.out (by assumption))))); (case c0 => assumption); rintro e w2 ⟨v, rfl, ho, hb⟩; obtain ⟨A2, c2, rfl⟩ := Kd.R_slice ho; have HC2 := Aside0.mk (Kd.R_reads' ho).2.2; have hc2 := (Kd.R_reads' ho).2.1; have HB2 := Aside0.mk hb; have HO2 := Aside0.mk ho; clear hb ho)
      | (go_at_call 27; (with_reducible refine (latchkeyref01_Same.calls k _ _ ld _ _ y_ true _ ?s0 ?c0 ?s1 ?c1 H3.out).mono ?_); (case s0 => exact (by repeat (first | with_reducible exact Aside0.out (by assumption) | with_reducible refine Kd.C_alloc ?_ _ | with_reducible refine Kd.C_drewN ?_ _ | with_reducible refine Kd.C_drew ?_ | refine Kd.C_below ?_ (Aside0.out (by assumption))))); (case c0 => assumption); (case s1 => exact (by repeat (first | with_reducible exact Aside0.out (by assumption) | with_reducible refine Kd.C_alloc ?_ _ | with_reducible refine Kd.C_drewN ?_ _ | with_reducible refine Kd.C_drew ?_ | refine Kd.C_below ?_ (Aside0.out (by assumption))))); (case c1 => assumption); rintro e w3 ⟨rfl, hq⟩; have HB3 := Aside0.mk (by first | exact below_drawn0 hq | exact hq); clear hq))
    go_ret
    exact ⟨rfl, (by repeat (first | with_reducible exact Below.refl _ _ | with_reducible exact Aside0.out (by assumption) | with_reducible refine below_alloc ?_ _ | with_reducible refine pw_below_drewN ?_ _ | with_reducible refine below_drew1 ?_ | refine below_step ?_ (Aside0.out (by assumption))))⟩
def Sums_clo2.f (k : Nat) (x y n : List Int) : Option (List Int) := (latchkeyref01_Add.f k x y).bind fun t1 => latchkeyref01_Mod.f k t1 n
set_option maxHeartbeats 4000000 in
set_option maxRecDepth 100000 in
theorem Sums_clo2.calls (k Bx By Bn : Nat) (Ax : Option Addr) (cx : Nat) (x : List Int) (Ay : Option Addr) (cy : Nat) (y : List Int) (An : Option Addr) (cn : Nat) (n : List Int) (r : List Int) (w : World) (hb_x : Boxed w Bx 27 (.slice Ax x.length cx)) (hb_y : Boxed w By 27 (.slice Ay y.length cy)) (hb_n : Boxed w Bn 27 (.slice An n.length cn)) (hr_x : Kd.C (Kd.int .i64) w Ax x.length x) (hc_x : x.length ≤ cx) (hr_y : Kd.C (Kd.int .i64) w Ay y.length y) (hc_y : y.length ≤ cy) (hr_n : Kd.C (Kd.int .i64) w An n.length n) (hc_n : n.length ≤ cn) (h : Sums_clo2.f k x y n = some r) :
    Calls Try.prog 41 #[.pointer (some ⟨Bx, 0, none⟩), .pointer (some ⟨By, 0, none⟩), .pointer (some ⟨Bn, 0, none⟩)] w fun e w' => ∃ v, e = .returned v ∧ Kd.R (Kd.int .i64) 3 w' w.heap.size (fun _ => True) v r ∧ Below w.heap.size w w' := by
  obtain ⟨t1, h0, h⟩ := Option.bind_eq_some_iff.mp h
  have H0 := Aside0.mk h0
  clear h0
  have H1 := Aside0.mk (show latchkeyref01_Mod.f k t1 n = some r from h)
  clear h
  have hx_x := hb_x.cell
  have hx_y := hb_y.cell
  have hx_n := hb_n.cell
  have HR_x := Aside0.mk hr_x
  have HR_y := Aside0.mk hr_y
  have HR_n := Aside0.mk hr_n
  have HX_x := Aside0.mk hb_x
  have HX_y := Aside0.mk hb_y
  have HX_n := Aside0.mk hb_n
  clear hr_x hr_y hr_n hb_x hb_y hb_n
  go_enter Try.func41, Try.ntmps41
  go_wp2
  go_region_held3 (fun w' => w'.cell? ⟨Bx, 0, none⟩ = some (.slice Ax x.length cx) ∧ w'.cell? ⟨By, 0, none⟩ = some (.slice Ay y.length cy) ∧ w'.cell? ⟨Bn, 0, none⟩ = some (.slice An n.length cn)) (refine ⟨Boxed.cell (t := 27) (by repeat (first | with_reducible exact Aside0.out (by assumption) | with_reducible refine Boxed.alloc ?_ _ | with_reducible refine Boxed.drewN ?_ _ | with_reducible refine Boxed.drew ?_ | refine box_step ?_ (Aside0.out (by assumption)))), Boxed.cell (t := 27) (by repeat (first | with_reducible exact Aside0.out (by assumption) | with_reducible refine Boxed.alloc ?_ _ | with_reducible refine Boxed.drewN ?_ _ | with_reducible refine Boxed.drew ?_ | refine box_step ?_ (Aside0.out (by assumption)))), Boxed.cell (t := 27) (by repeat (first | with_reducible exact Aside0.out (by assumption) | with_reducible refine Boxed.alloc ?_ _ | with_reducible refine Boxed.drewN ?_ _ | with_reducible refine Boxed.drew ?_ | refine box_step ?_ (Aside0.out (by assumption))))⟩)
    (first
      | (go_at_call 19; (with_reducible refine (latchkeyref01_Add.calls k _ _ x _ _ y t1 _ ?s0 ?c0 ?s1 ?c1 H0.out).mono ?_); (case s0 => exact (by repeat (first | with_reducible exact Aside0.out (by assumption) | with_reducible refine Kd.C_alloc ?_ _ | with_reducible refine Kd.C_drewN ?_ _ | with_reducible refine Kd.C_drew ?_ | refine Kd.C_below ?_ (Aside0.out (by assumption))))); (case c0 => assumption); (case s1 => exact (by repeat (first | with_reducible exact Aside0.out (by assumption) | with_reducible refine Kd.C_alloc ?_ _ | with_reducible refine Kd.C_drewN ?_ _ | with_reducible refine Kd.C_drew ?_ | refine Kd.C_below ?_ (Aside0.out (by assumption))))); (case c1 => assumption); rintro e w0 ⟨v, rfl, ho, hb⟩; obtain ⟨A0, c0, rfl⟩ := Kd.R_slice ho; have HC0 := Aside0.mk (Kd.R_reads' ho).2.2; have hc0 := (Kd.R_reads' ho).2.1; have HB0 := Aside0.mk hb; have HO0 := Aside0.mk ho; clear hb ho)
      | (go_at_call 17; (with_reducible refine (latchkeyref01_Mod.calls k _ _ t1 _ _ n r _ ?s0 ?c0 ?s1 ?c1 H1.out).mono ?_); (case s0 => exact (by repeat (first | with_reducible exact Aside0.out (by assumption) | with_reducible refine Kd.C_alloc ?_ _ | with_reducible refine Kd.C_drewN ?_ _ | with_reducible refine Kd.C_drew ?_ | refine Kd.C_below ?_ (Aside0.out (by assumption))))); (case c0 => assumption); (case s1 => exact (by repeat (first | with_reducible exact Aside0.out (by assumption) | with_reducible refine Kd.C_alloc ?_ _ | with_reducible refine Kd.C_drewN ?_ _ | with_reducible refine Kd.C_drew ?_ | refine Kd.C_below ?_ (Aside0.out (by assumption))))); (case c1 => assumption); rintro e w1 ⟨v, rfl, ho, hb⟩; obtain ⟨A1, c1, rfl⟩ := Kd.R_slice ho; have HC1 := Aside0.mk (Kd.R_reads' ho).2.2; have hc1 := (Kd.R_reads' ho).2.1; have HB1 := Aside0.mk hb; have HO1 := Aside0.mk ho; clear hb ho))
  all_goals go_wp2
  all_goals go_ret
  all_goals exact ⟨_, rfl, Kd.R_lower HO1.out (below_size (by repeat (first | with_reducible exact Below.refl _ _ | with_reducible exact Aside0.out (by assumption) | with_reducible refine below_alloc ?_ _ | with_reducible refine pw_below_drewN ?_ _ | with_reducible refine below_drew1 ?_ | refine below_step ?_ (Aside0.out (by assumption))))), (by repeat (first | with_reducible exact Below.refl _ _ | with_reducible exact Aside0.out (by assumption) | with_reducible refine below_alloc ?_ _ | with_reducible refine pw_below_drewN ?_ _ | with_reducible refine below_drew1 ?_ | refine below_step ?_ (Aside0.out (by assumption))))⟩
set_option maxHeartbeats 4000000 in
set_option maxRecDepth 100000 in
theorem Sums_clo2T.calls (k Bx By Bn : Nat) (Ax : Option Addr) (cx : Nat) (x : List Int) (Ay : Option Addr) (cy : Nat) (y : List Int) (An : Option Addr) (cn : Nat) (n : List Int) (Ad : Option Addr) (cd : Nat) (ld : List Int) (An : Option Addr) (cn : Nat) (ln : List Int) (e : Int) (w : World) (hb_x : Boxed w Bx 27 (.slice Ax x.length cx)) (hb_y : Boxed w By 27 (.slice Ay y.length cy)) (hb_n : Boxed w Bn 27 (.slice An n.length cn)) (hr_x : Kd.C (Kd.int .i64) w Ax x.length x) (hc_x : x.length ≤ cx) (hr_y : Kd.C (Kd.int .i64) w Ay y.length y) (hc_y : y.length ≤ cy) (hr_n : Kd.C (Kd.int .i64) w An n.length n) (hc_n : n.length ≤ cn) (hr_ld : Kd.C (Kd.int .u64) w Ad ld.length ld) (hc_ld : ld.length ≤ cd) (h : law02_told.f k ld e ln (Sums_clo2.f k x y n) = some true) :
    Calls Try.prog 15 #[.slice Ad ld.length cd, .int .i64 e, .slice An ln.length cn, .func (.func 41) #[] #[.pointer (some ⟨Bx, 0, none⟩), .pointer (some ⟨By, 0, none⟩), .pointer (some ⟨Bn, 0, none⟩)]] w fun e w' => e = .returned (.bool true) ∧ Below w.heap.size w w' := by
  unfold law02_told.f at h
  by_cases hn : ln.length = 0
  · rw [if_pos hn] at h
    obtain rfl := List.eq_nil_of_length_eq_zero hn
    obtain ⟨⟨rfl, hd⟩, -⟩ := bool_ite h
    obtain rfl := List.eq_nil_of_length_eq_zero hd
    clear h hn hd hb_x hb_y hb_n hr_x hr_y hr_n hr_ld
    go_enter Try.func15, Try.ntmps15
    go_wp2
    go_ret
    exact ⟨rfl, Below.refl _ _⟩
  · rw [if_neg hn] at h
    obtain ⟨rfl, h⟩ := bool_ite h
    obtain ⟨z, h1, h⟩ := Option.bind_eq_some_iff.mp h
    obtain ⟨y_, h2, h⟩ := Option.bind_eq_some_iff.mp h
    obtain ⟨s, h3, h⟩ := Option.bind_eq_some_iff.mp h
    obtain ⟨rfl, -⟩ := bool_ite h
    have hne : ((ln.length : Int) == 0) = false := beq_eq_false_iff_ne.2 (by omega)
    have H1 := Aside0.mk h1
    have H2 := Aside0.mk h2
    have H3 := Aside0.mk h3
    clear h h1 h2 h3 hn
    have HR_x := Aside0.mk hr_x
    have HR_y := Aside0.mk hr_y
    have HR_n := Aside0.mk hr_n
    have HR_ld := Aside0.mk hr_ld
    have HX_x := Aside0.mk hb_x
    have HX_y := Aside0.mk hb_y
    have HX_n := Aside0.mk hb_n
    clear hr_x hr_y hr_n hr_ld hb_x hb_y hb_n
    go_enter Try.func15, Try.ntmps15
    go_wp2_with (first
      | (go_at_call 41; (with_reducible refine (Sums_clo2.calls k (Bx) (By) (Bn)  Ax cx x Ay cy y An cn n z _ ?b0 ?b1 ?b2 ?s0 ?c0 ?s1 ?c1 ?s2 ?c2 H1.out).mono ?_); (case b0 => exact (by repeat (first | with_reducible exact Aside0.out (by assumption) | with_reducible refine Boxed.alloc ?_ _ | with_reducible refine Boxed.drewN ?_ _ | with_reducible refine Boxed.drew ?_ | refine box_step ?_ (Aside0.out (by assumption))))); (case b1 => exact (by repeat (first | with_reducible exact Aside0.out (by assumption) | with_reducible refine Boxed.alloc ?_ _ | with_reducible refine Boxed.drewN ?_ _ | with_reducible refine Boxed.drew ?_ | refine box_step ?_ (Aside0.out (by assumption))))); (case b2 => exact (by repeat (first | with_reducible exact Aside0.out (by assumption) | with_reducible refine Boxed.alloc ?_ _ | with_reducible refine Boxed.drewN ?_ _ | with_reducible refine Boxed.drew ?_ | refine box_step ?_ (Aside0.out (by assumption))))); (case s0 => exact (by repeat (first | with_reducible exact Aside0.out (by assumption) | with_reducible refine Kd.C_alloc ?_ _ | with_reducible refine Kd.C_drewN ?_ _ | with_reducible refine Kd.C_drew ?_ | refine Kd.C_below ?_ (Aside0.out (by assumption))))); (case c0 => assumption); (case s1 => exact (by repeat (first | with_reducible exact Aside0.out (by assumption) | with_reducible refine Kd.C_alloc ?_ _ | with_reducible refine Kd.C_drewN ?_ _ | with_reducible refine Kd.C_drew ?_ | refine Kd.C_below ?_ (Aside0.out (by assumption))))); (case c1 => assumption); (case s2 => exact (by repeat (first | with_reducible exact Aside0.out (by assumption) | with_reducible refine Kd.C_alloc ?_ _ | with_reducible refine Kd.C_drewN ?_ _ | with_reducible refine Kd.C_drew ?_ | refine Kd.C_below ?_ (Aside0.out (by assumption))))); (case c2 => assumption); rintro e w1 ⟨v, rfl, ho, hb⟩; obtain ⟨A1, c1, rfl⟩ := Kd.R_slice ho; have HC1 := Aside0.mk (Kd.R_reads' ho).2.2; have hc1 := (Kd.R_reads' ho).2.1; have HB1 := Aside0.mk hb; have HO1 := Aside0.mk ho; clear hb ho)
      | (go_at_call 28; (with_reducible refine (latchkeyref01_Nat.calls k _ _ z y_ _ ?s0 ?c0 H2.out).mono ?_); (case s0 => exact (by repeat (first | with_reducible exact Aside0.out (by assumption) | with_reducible refine Kd.C_alloc ?_ _ | with_reducible refine Kd.C_drewN ?_ _ | with_reducible refine Kd.C_drew ?_ | refine Kd.C_below ?_ (Aside0.out (by assumption))))); (case c0 => assumption); rintro e w2 ⟨v, rfl, ho, hb⟩; obtain ⟨A2, c2, rfl⟩ := Kd.R_slice ho; have HC2 := Aside0.mk (Kd.R_reads' ho).2.2; have hc2 := (Kd.R_reads' ho).2.1; have HB2 := Aside0.mk hb; have HO2 := Aside0.mk ho; clear hb ho)
      | (go_at_call 27; (with_reducible refine (latchkeyref01_Same.calls k _ _ ld _ _ y_ true _ ?s0 ?c0 ?s1 ?c1 H3.out).mono ?_); (case s0 => exact (by repeat (first | with_reducible exact Aside0.out (by assumption) | with_reducible refine Kd.C_alloc ?_ _ | with_reducible refine Kd.C_drewN ?_ _ | with_reducible refine Kd.C_drew ?_ | refine Kd.C_below ?_ (Aside0.out (by assumption))))); (case c0 => assumption); (case s1 => exact (by repeat (first | with_reducible exact Aside0.out (by assumption) | with_reducible refine Kd.C_alloc ?_ _ | with_reducible refine Kd.C_drewN ?_ _ | with_reducible refine Kd.C_drew ?_ | refine Kd.C_below ?_ (Aside0.out (by assumption))))); (case c1 => assumption); rintro e w3 ⟨rfl, hq⟩; have HB3 := Aside0.mk (by first | exact below_drawn0 hq | exact hq); clear hq))
    go_ret
    exact ⟨rfl, (by repeat (first | with_reducible exact Below.refl _ _ | with_reducible exact Aside0.out (by assumption) | with_reducible refine below_alloc ?_ _ | with_reducible refine pw_below_drewN ?_ _ | with_reducible refine below_drew1 ?_ | refine below_step ?_ (Aside0.out (by assumption))))⟩
def Sums_clo3.f (k : Nat) (x y n : List Int) : Option (List Int) := (latchkeyref01_Mul.f k x y).bind fun t1 => latchkeyref01_Mod.f k t1 n
set_option maxHeartbeats 4000000 in
set_option maxRecDepth 100000 in
theorem Sums_clo3.calls (k Bx By Bn : Nat) (Ax : Option Addr) (cx : Nat) (x : List Int) (Ay : Option Addr) (cy : Nat) (y : List Int) (An : Option Addr) (cn : Nat) (n : List Int) (r : List Int) (w : World) (hb_x : Boxed w Bx 27 (.slice Ax x.length cx)) (hb_y : Boxed w By 27 (.slice Ay y.length cy)) (hb_n : Boxed w Bn 27 (.slice An n.length cn)) (hr_x : Kd.C (Kd.int .i64) w Ax x.length x) (hc_x : x.length ≤ cx) (hr_y : Kd.C (Kd.int .i64) w Ay y.length y) (hc_y : y.length ≤ cy) (hr_n : Kd.C (Kd.int .i64) w An n.length n) (hc_n : n.length ≤ cn) (h : Sums_clo3.f k x y n = some r) :
    Calls Try.prog 42 #[.pointer (some ⟨Bx, 0, none⟩), .pointer (some ⟨By, 0, none⟩), .pointer (some ⟨Bn, 0, none⟩)] w fun e w' => ∃ v, e = .returned v ∧ Kd.R (Kd.int .i64) 3 w' w.heap.size (fun _ => True) v r ∧ Below w.heap.size w w' := by
  obtain ⟨t1, h0, h⟩ := Option.bind_eq_some_iff.mp h
  have H0 := Aside0.mk h0
  clear h0
  have H1 := Aside0.mk (show latchkeyref01_Mod.f k t1 n = some r from h)
  clear h
  have hx_x := hb_x.cell
  have hx_y := hb_y.cell
  have hx_n := hb_n.cell
  have HR_x := Aside0.mk hr_x
  have HR_y := Aside0.mk hr_y
  have HR_n := Aside0.mk hr_n
  have HX_x := Aside0.mk hb_x
  have HX_y := Aside0.mk hb_y
  have HX_n := Aside0.mk hb_n
  clear hr_x hr_y hr_n hb_x hb_y hb_n
  go_enter Try.func42, Try.ntmps42
  go_wp2
  go_region_held3 (fun w' => w'.cell? ⟨Bx, 0, none⟩ = some (.slice Ax x.length cx) ∧ w'.cell? ⟨By, 0, none⟩ = some (.slice Ay y.length cy) ∧ w'.cell? ⟨Bn, 0, none⟩ = some (.slice An n.length cn)) (refine ⟨Boxed.cell (t := 27) (by repeat (first | with_reducible exact Aside0.out (by assumption) | with_reducible refine Boxed.alloc ?_ _ | with_reducible refine Boxed.drewN ?_ _ | with_reducible refine Boxed.drew ?_ | refine box_step ?_ (Aside0.out (by assumption)))), Boxed.cell (t := 27) (by repeat (first | with_reducible exact Aside0.out (by assumption) | with_reducible refine Boxed.alloc ?_ _ | with_reducible refine Boxed.drewN ?_ _ | with_reducible refine Boxed.drew ?_ | refine box_step ?_ (Aside0.out (by assumption)))), Boxed.cell (t := 27) (by repeat (first | with_reducible exact Aside0.out (by assumption) | with_reducible refine Boxed.alloc ?_ _ | with_reducible refine Boxed.drewN ?_ _ | with_reducible refine Boxed.drew ?_ | refine box_step ?_ (Aside0.out (by assumption))))⟩)
    (first
      | (go_at_call 29; (with_reducible refine (latchkeyref01_Mul.calls k _ _ x _ _ y t1 _ ?s0 ?c0 ?s1 ?c1 H0.out).mono ?_); (case s0 => exact (by repeat (first | with_reducible exact Aside0.out (by assumption) | with_reducible refine Kd.C_alloc ?_ _ | with_reducible refine Kd.C_drewN ?_ _ | with_reducible refine Kd.C_drew ?_ | refine Kd.C_below ?_ (Aside0.out (by assumption))))); (case c0 => assumption); (case s1 => exact (by repeat (first | with_reducible exact Aside0.out (by assumption) | with_reducible refine Kd.C_alloc ?_ _ | with_reducible refine Kd.C_drewN ?_ _ | with_reducible refine Kd.C_drew ?_ | refine Kd.C_below ?_ (Aside0.out (by assumption))))); (case c1 => assumption); rintro e w0 ⟨v, rfl, ho, hb⟩; obtain ⟨A0, c0, rfl⟩ := Kd.R_slice ho; have HC0 := Aside0.mk (Kd.R_reads' ho).2.2; have hc0 := (Kd.R_reads' ho).2.1; have HB0 := Aside0.mk hb; have HO0 := Aside0.mk ho; clear hb ho)
      | (go_at_call 17; (with_reducible refine (latchkeyref01_Mod.calls k _ _ t1 _ _ n r _ ?s0 ?c0 ?s1 ?c1 H1.out).mono ?_); (case s0 => exact (by repeat (first | with_reducible exact Aside0.out (by assumption) | with_reducible refine Kd.C_alloc ?_ _ | with_reducible refine Kd.C_drewN ?_ _ | with_reducible refine Kd.C_drew ?_ | refine Kd.C_below ?_ (Aside0.out (by assumption))))); (case c0 => assumption); (case s1 => exact (by repeat (first | with_reducible exact Aside0.out (by assumption) | with_reducible refine Kd.C_alloc ?_ _ | with_reducible refine Kd.C_drewN ?_ _ | with_reducible refine Kd.C_drew ?_ | refine Kd.C_below ?_ (Aside0.out (by assumption))))); (case c1 => assumption); rintro e w1 ⟨v, rfl, ho, hb⟩; obtain ⟨A1, c1, rfl⟩ := Kd.R_slice ho; have HC1 := Aside0.mk (Kd.R_reads' ho).2.2; have hc1 := (Kd.R_reads' ho).2.1; have HB1 := Aside0.mk hb; have HO1 := Aside0.mk ho; clear hb ho))
  all_goals go_wp2
  all_goals go_ret
  all_goals exact ⟨_, rfl, Kd.R_lower HO1.out (below_size (by repeat (first | with_reducible exact Below.refl _ _ | with_reducible exact Aside0.out (by assumption) | with_reducible refine below_alloc ?_ _ | with_reducible refine pw_below_drewN ?_ _ | with_reducible refine below_drew1 ?_ | refine below_step ?_ (Aside0.out (by assumption))))), (by repeat (first | with_reducible exact Below.refl _ _ | with_reducible exact Aside0.out (by assumption) | with_reducible refine below_alloc ?_ _ | with_reducible refine pw_below_drewN ?_ _ | with_reducible refine below_drew1 ?_ | refine below_step ?_ (Aside0.out (by assumption))))⟩
set_option maxHeartbeats 4000000 in
set_option maxRecDepth 100000 in
theorem Sums_clo3T.calls (k Bx By Bn : Nat) (Ax : Option Addr) (cx : Nat) (x : List Int) (Ay : Option Addr) (cy : Nat) (y : List Int) (An : Option Addr) (cn : Nat) (n : List Int) (Ad : Option Addr) (cd : Nat) (ld : List Int) (An : Option Addr) (cn : Nat) (ln : List Int) (e : Int) (w : World) (hb_x : Boxed w Bx 27 (.slice Ax x.length cx)) (hb_y : Boxed w By 27 (.slice Ay y.length cy)) (hb_n : Boxed w Bn 27 (.slice An n.length cn)) (hr_x : Kd.C (Kd.int .i64) w Ax x.length x) (hc_x : x.length ≤ cx) (hr_y : Kd.C (Kd.int .i64) w Ay y.length y) (hc_y : y.length ≤ cy) (hr_n : Kd.C (Kd.int .i64) w An n.length n) (hc_n : n.length ≤ cn) (hr_ld : Kd.C (Kd.int .u64) w Ad ld.length ld) (hc_ld : ld.length ≤ cd) (h : law02_told.f k ld e ln (Sums_clo3.f k x y n) = some true) :
    Calls Try.prog 15 #[.slice Ad ld.length cd, .int .i64 e, .slice An ln.length cn, .func (.func 42) #[] #[.pointer (some ⟨Bx, 0, none⟩), .pointer (some ⟨By, 0, none⟩), .pointer (some ⟨Bn, 0, none⟩)]] w fun e w' => e = .returned (.bool true) ∧ Below w.heap.size w w' := by
  unfold law02_told.f at h
  by_cases hn : ln.length = 0
  · rw [if_pos hn] at h
    obtain rfl := List.eq_nil_of_length_eq_zero hn
    obtain ⟨⟨rfl, hd⟩, -⟩ := bool_ite h
    obtain rfl := List.eq_nil_of_length_eq_zero hd
    clear h hn hd hb_x hb_y hb_n hr_x hr_y hr_n hr_ld
    go_enter Try.func15, Try.ntmps15
    go_wp2
    go_ret
    exact ⟨rfl, Below.refl _ _⟩
  · rw [if_neg hn] at h
    obtain ⟨rfl, h⟩ := bool_ite h
    obtain ⟨z, h1, h⟩ := Option.bind_eq_some_iff.mp h
    obtain ⟨y_, h2, h⟩ := Option.bind_eq_some_iff.mp h
    obtain ⟨s, h3, h⟩ := Option.bind_eq_some_iff.mp h
    obtain ⟨rfl, -⟩ := bool_ite h
    have hne : ((ln.length : Int) == 0) = false := beq_eq_false_iff_ne.2 (by omega)
    have H1 := Aside0.mk h1
    have H2 := Aside0.mk h2
    have H3 := Aside0.mk h3
    clear h h1 h2 h3 hn
    have HR_x := Aside0.mk hr_x
    have HR_y := Aside0.mk hr_y
    have HR_n := Aside0.mk hr_n
    have HR_ld := Aside0.mk hr_ld
    have HX_x := Aside0.mk hb_x
    have HX_y := Aside0.mk hb_y
    have HX_n := Aside0.mk hb_n
    clear hr_x hr_y hr_n hr_ld hb_x hb_y hb_n
    go_enter Try.func15, Try.ntmps15
    go_wp2_with (first
      | (go_at_call 42; (with_reducible refine (Sums_clo3.calls k (Bx) (By) (Bn)  Ax cx x Ay cy y An cn n z _ ?b0 ?b1 ?b2 ?s0 ?c0 ?s1 ?c1 ?s2 ?c2 H1.out).mono ?_); (case b0 => exact (by repeat (first | with_reducible exact Aside0.out (by assumption) | with_reducible refine Boxed.alloc ?_ _ | with_reducible refine Boxed.drewN ?_ _ | with_reducible refine Boxed.drew ?_ | refine box_step ?_ (Aside0.out (by assumption))))); (case b1 => exact (by repeat (first | with_reducible exact Aside0.out (by assumption) | with_reducible refine Boxed.alloc ?_ _ | with_reducible refine Boxed.drewN ?_ _ | with_reducible refine Boxed.drew ?_ | refine box_step ?_ (Aside0.out (by assumption))))); (case b2 => exact (by repeat (first | with_reducible exact Aside0.out (by assumption) | with_reducible refine Boxed.alloc ?_ _ | with_reducible refine Boxed.drewN ?_ _ | with_reducible refine Boxed.drew ?_ | refine box_step ?_ (Aside0.out (by assumption))))); (case s0 => exact (by repeat (first | with_reducible exact Aside0.out (by assumption) | with_reducible refine Kd.C_alloc ?_ _ | with_reducible refine Kd.C_drewN ?_ _ | with_reducible refine Kd.C_drew ?_ | refine Kd.C_below ?_ (Aside0.out (by assumption))))); (case c0 => assumption); (case s1 => exact (by repeat (first | with_reducible exact Aside0.out (by assumption) | with_reducible refine Kd.C_alloc ?_ _ | with_reducible refine Kd.C_drewN ?_ _ | with_reducible refine Kd.C_drew ?_ | refine Kd.C_below ?_ (Aside0.out (by assumption))))); (case c1 => assumption); (case s2 => exact (by repeat (first | with_reducible exact Aside0.out (by assumption) | with_reducible refine Kd.C_alloc ?_ _ | with_reducible refine Kd.C_drewN ?_ _ | with_reducible refine Kd.C_drew ?_ | refine Kd.C_below ?_ (Aside0.out (by assumption))))); (case c2 => assumption); rintro e w1 ⟨v, rfl, ho, hb⟩; obtain ⟨A1, c1, rfl⟩ := Kd.R_slice ho; have HC1 := Aside0.mk (Kd.R_reads' ho).2.2; have hc1 := (Kd.R_reads' ho).2.1; have HB1 := Aside0.mk hb; have HO1 := Aside0.mk ho; clear hb ho)
      | (go_at_call 28; (with_reducible refine (latchkeyref01_Nat.calls k _ _ z y_ _ ?s0 ?c0 H2.out).mono ?_); (case s0 => exact (by repeat (first | with_reducible exact Aside0.out (by assumption) | with_reducible refine Kd.C_alloc ?_ _ | with_reducible refine Kd.C_drewN ?_ _ | with_reducible refine Kd.C_drew ?_ | refine Kd.C_below ?_ (Aside0.out (by assumption))))); (case c0 => assumption); rintro e w2 ⟨v, rfl, ho, hb⟩; obtain ⟨A2, c2, rfl⟩ := Kd.R_slice ho; have HC2 := Aside0.mk (Kd.R_reads' ho).2.2; have hc2 := (Kd.R_reads' ho).2.1; have HB2 := Aside0.mk hb; have HO2 := Aside0.mk ho; clear hb ho)
      | (go_at_call 27; (with_reducible refine (latchkeyref01_Same.calls k _ _ ld _ _ y_ true _ ?s0 ?c0 ?s1 ?c1 H3.out).mono ?_); (case s0 => exact (by repeat (first | with_reducible exact Aside0.out (by assumption) | with_reducible refine Kd.C_alloc ?_ _ | with_reducible refine Kd.C_drewN ?_ _ | with_reducible refine Kd.C_drew ?_ | refine Kd.C_below ?_ (Aside0.out (by assumption))))); (case c0 => assumption); (case s1 => exact (by repeat (first | with_reducible exact Aside0.out (by assumption) | with_reducible refine Kd.C_alloc ?_ _ | with_reducible refine Kd.C_drewN ?_ _ | with_reducible refine Kd.C_drew ?_ | refine Kd.C_below ?_ (Aside0.out (by assumption))))); (case c1 => assumption); rintro e w3 ⟨rfl, hq⟩; have HB3 := Aside0.mk (by first | exact below_drawn0 hq | exact hq); clear hq))
    go_ret
    exact ⟨rfl, (by repeat (first | with_reducible exact Below.refl _ _ | with_reducible exact Aside0.out (by assumption) | with_reducible refine below_alloc ?_ _ | with_reducible refine pw_below_drewN ?_ _ | with_reducible refine below_drew1 ?_ | refine below_step ?_ (Aside0.out (by assumption))))⟩
def latchkeylaw02_ModularSums.f (k : Nat) (l0 l1 l2 : List Int) : Option Bool := (latchkeylaw02_Awake.f k).bind fun aw => if aw = true then (latchkeylaw02_long.f k 40 [l0, l1, l2]).bind fun u0 => if u0 = true then some true else (latchkeyref01_Of.f k l0).bind fun x => (latchkeyref01_Of.f k l1).bind fun y => (latchkeyref01_Of.f k l2).bind fun n => (modular_Of.f k l0 l2).bind fun d0 => (modular_Add.f k l0 l1 l2).bind fun d1 => (modular_Mul.f k l0 l1 l2).bind fun d2 => (law02_told.f k d0.1 d0.2 n (Sums_clo1.f k x n)).bind fun v0 => if v0 = true then (law02_told.f k d1.1 d1.2 n (Sums_clo2.f k x y n)).bind fun v1 => if v1 = true then (law02_told.f k d2.1 d2.2 n (Sums_clo3.f k x y n)).bind fun v2 => if v2 = true then some true else none else none else none else none
set_option maxHeartbeats 4000000 in
set_option maxRecDepth 100000 in
theorem latchkeylaw02_ModularSums.calls (k : Nat) (A0 : Option Addr) (c0 : Nat) (l0 : List Int) (A1 : Option Addr) (c1 : Nat) (l1 : List Int) (A2 : Option Addr) (c2 : Nat) (l2 : List Int) (w : World) (hr_l0 : Kd.C (Kd.int .u64) w A0 l0.length l0) (hc_l0 : l0.length ≤ c0) (hr_l1 : Kd.C (Kd.int .u64) w A1 l1.length l1) (hc_l1 : l1.length ≤ c1) (hr_l2 : Kd.C (Kd.int .u64) w A2 l2.length l2) (hc_l2 : l2.length ≤ c2) (h : latchkeylaw02_ModularSums.f k l0 l1 l2 = some true) :
    Calls Try.prog 8 #[.slice A0 l0.length c0, .slice A1 l1.length c1, .slice A2 l2.length c2] w fun e w' => e = .returned (.bool true) ∧ Below w.heap.size w w' := by
  obtain ⟨aw, h0, h⟩ := Option.bind_eq_some_iff.mp h
  obtain ⟨rfl, h⟩ := bool_ite h
  have HA := Aside0.mk h0
  clear h0
  have HR_l0 := Aside0.mk hr_l0
  have HR_l1 := Aside0.mk hr_l1
  have HR_l2 := Aside0.mk hr_l2
  clear hr_l0 hr_l1 hr_l2
  obtain ⟨u0, h0, h⟩ := Option.bind_eq_some_iff.mp h
  have HU0 := Aside0.mk h0
  clear h0
  cases u0 with
  | true =>
    clear h
    go_enter Try.func8, Try.ntmps8
    go_wp2_with (first
      | (go_at_call 11; (with_reducible refine (latchkeylaw02_Awake.calls k  true _  HA.out).mono ?_); rintro e wa ⟨rfl, hb⟩; have HBa := Aside0.mk hb; clear hb)
      | (go_at_call 12; (with_reducible refine (law02_long.calls k 40 _ _ [l0, l1, l2] true _ 3 rfl ?s0 ?c0 HU0.out).mono ?_); (case s0 => exact C_rows _ [.slice A0 l0.length c0, .slice A1 l1.length c1, .slice A2 l2.length c2] (World.alloc_heap_new _ _) rfl (by simp) (all_cons (RowAt.mk (by assumption) (by repeat (first | with_reducible exact Aside0.out (by assumption) | with_reducible refine Kd.C_alloc ?_ _ | with_reducible refine Kd.C_drewN ?_ _ | with_reducible refine Kd.C_drew ?_ | refine Kd.C_below ?_ (Aside0.out (by assumption))))) (all_cons (RowAt.mk (by assumption) (by repeat (first | with_reducible exact Aside0.out (by assumption) | with_reducible refine Kd.C_alloc ?_ _ | with_reducible refine Kd.C_drewN ?_ _ | with_reducible refine Kd.C_drew ?_ | refine Kd.C_below ?_ (Aside0.out (by assumption))))) (all_cons (RowAt.mk (by assumption) (by repeat (first | with_reducible exact Aside0.out (by assumption) | with_reducible refine Kd.C_alloc ?_ _ | with_reducible refine Kd.C_drewN ?_ _ | with_reducible refine Kd.C_drew ?_ | refine Kd.C_below ?_ (Aside0.out (by assumption))))) all_nil)))); (case c0 => exact Nat.le_refl _); rintro e wl0 ⟨rfl, hq⟩; have HBl0 := Aside0.mk (by first | exact below_drawn0 hq | exact hq); clear hq))
    go_ret
    exact ⟨rfl, (by repeat (first | with_reducible exact Below.refl _ _ | with_reducible exact Aside0.out (by assumption) | with_reducible refine below_alloc ?_ _ | with_reducible refine pw_below_drewN ?_ _ | with_reducible refine below_drew1 ?_ | refine below_step ?_ (Aside0.out (by assumption))))⟩
  | false =>
    replace h := (if_neg Bool.false_ne_true).symm.trans h
    obtain ⟨x, h0, h⟩ := Option.bind_eq_some_iff.mp h
    have HF0 := Aside0.mk h0
    clear h0
    obtain ⟨y, h0, h⟩ := Option.bind_eq_some_iff.mp h
    have HF1 := Aside0.mk h0
    clear h0
    obtain ⟨n, h0, h⟩ := Option.bind_eq_some_iff.mp h
    have HF2 := Aside0.mk h0
    clear h0
    obtain ⟨⟨d0, e0⟩, h0, h⟩ := Option.bind_eq_some_iff.mp h
    have HD0 := Aside0.mk h0
    clear h0
    obtain ⟨⟨d1, e1⟩, h0, h⟩ := Option.bind_eq_some_iff.mp h
    have HD1 := Aside0.mk h0
    clear h0
    obtain ⟨⟨d2, e2⟩, h0, h⟩ := Option.bind_eq_some_iff.mp h
    have HD2 := Aside0.mk h0
    clear h0
    obtain ⟨v0, h0, h⟩ := Option.bind_eq_some_iff.mp h
    obtain ⟨rfl, h⟩ := bool_ite h
    have HT0 := Aside0.mk h0
    clear h0
    obtain ⟨v1, h0, h⟩ := Option.bind_eq_some_iff.mp h
    obtain ⟨rfl, h⟩ := bool_ite h
    have HT1 := Aside0.mk h0
    clear h0
    obtain ⟨v2, h0, h⟩ := Option.bind_eq_some_iff.mp h
    obtain ⟨rfl, h⟩ := bool_ite h
    have HT2 := Aside0.mk h0
    clear h0
    clear h
    go_enter Try.func8, Try.ntmps8
    go_wp2_with (first
      | (go_at_call 11; (with_reducible refine (latchkeylaw02_Awake.calls k  true _  HA.out).mono ?_); rintro e wa ⟨rfl, hb⟩; have HBa := Aside0.mk hb; clear hb)
      | (go_at_call 12; (with_reducible refine (law02_long.calls k 40 _ _ [l0, l1, l2] false _ 3 rfl ?s0 ?c0 HU0.out).mono ?_); (case s0 => exact C_rows _ [.slice A0 l0.length c0, .slice A1 l1.length c1, .slice A2 l2.length c2] (World.alloc_heap_new _ _) rfl (by simp) (all_cons (RowAt.mk (by assumption) (by repeat (first | with_reducible exact Aside0.out (by assumption) | with_reducible refine Kd.C_alloc ?_ _ | with_reducible refine Kd.C_drewN ?_ _ | with_reducible refine Kd.C_drew ?_ | refine Kd.C_below ?_ (Aside0.out (by assumption))))) (all_cons (RowAt.mk (by assumption) (by repeat (first | with_reducible exact Aside0.out (by assumption) | with_reducible refine Kd.C_alloc ?_ _ | with_reducible refine Kd.C_drewN ?_ _ | with_reducible refine Kd.C_drew ?_ | refine Kd.C_below ?_ (Aside0.out (by assumption))))) (all_cons (RowAt.mk (by assumption) (by repeat (first | with_reducible exact Aside0.out (by assumption) | with_reducible refine Kd.C_alloc ?_ _ | with_reducible refine Kd.C_drewN ?_ _ | with_reducible refine Kd.C_drew ?_ | refine Kd.C_below ?_ (Aside0.out (by assumption))))) all_nil)))); (case c0 => exact Nat.le_refl _); rintro e wl0 ⟨rfl, hq⟩; have HBl0 := Aside0.mk (by first | exact below_drawn0 hq | exact hq); clear hq)
      | (go_at_call 13; (with_reducible refine (latchkeyref01_Of.calls k _ _ l0 x _ ?s0 ?c0 HF0.out).mono ?_); (case s0 => exact (by repeat (first | with_reducible exact Aside0.out (by assumption) | with_reducible refine Kd.C_alloc ?_ _ | with_reducible refine Kd.C_drewN ?_ _ | with_reducible refine Kd.C_drew ?_ | refine Kd.C_below ?_ (Aside0.out (by assumption))))); (case c0 => assumption); rintro e w3 ⟨v, rfl, ho, hb⟩; obtain ⟨A3, c3, rfl⟩ := Kd.R_slice ho; have HC3 := Aside0.mk (Kd.R_reads' ho).2.2; have hc3 := (Kd.R_reads' ho).2.1; have HB3 := Aside0.mk hb; have HO3 := Aside0.mk ho; clear hb ho)
      | (go_at_call 13; (with_reducible refine (latchkeyref01_Of.calls k _ _ l1 y _ ?s0 ?c0 HF1.out).mono ?_); (case s0 => exact (by repeat (first | with_reducible exact Aside0.out (by assumption) | with_reducible refine Kd.C_alloc ?_ _ | with_reducible refine Kd.C_drewN ?_ _ | with_reducible refine Kd.C_drew ?_ | refine Kd.C_below ?_ (Aside0.out (by assumption))))); (case c0 => assumption); rintro e w4 ⟨v, rfl, ho, hb⟩; obtain ⟨A4, c4, rfl⟩ := Kd.R_slice ho; have HC4 := Aside0.mk (Kd.R_reads' ho).2.2; have hc4 := (Kd.R_reads' ho).2.1; have HB4 := Aside0.mk hb; have HO4 := Aside0.mk ho; clear hb ho)
      | (go_at_call 13; (with_reducible refine (latchkeyref01_Of.calls k _ _ l2 n _ ?s0 ?c0 HF2.out).mono ?_); (case s0 => exact (by repeat (first | with_reducible exact Aside0.out (by assumption) | with_reducible refine Kd.C_alloc ?_ _ | with_reducible refine Kd.C_drewN ?_ _ | with_reducible refine Kd.C_drew ?_ | refine Kd.C_below ?_ (Aside0.out (by assumption))))); (case c0 => assumption); rintro e w5 ⟨v, rfl, ho, hb⟩; obtain ⟨A5, c5, rfl⟩ := Kd.R_slice ho; have HC5 := Aside0.mk (Kd.R_reads' ho).2.2; have hc5 := (Kd.R_reads' ho).2.1; have HB5 := Aside0.mk hb; have HO5 := Aside0.mk ho; clear hb ho)
      | (go_at_call 38; (with_reducible refine (modular_Of.calls k _ _ l0 _ _ l2 d0 e0 _ ?s0 ?c0 ?s1 ?c1 HD0.out).mono ?_); (case s0 => exact (by repeat (first | with_reducible exact Aside0.out (by assumption) | with_reducible refine Kd.C_alloc ?_ _ | with_reducible refine Kd.C_drewN ?_ _ | with_reducible refine Kd.C_drew ?_ | refine Kd.C_below ?_ (Aside0.out (by assumption))))); (case c0 => assumption); (case s1 => exact (by repeat (first | with_reducible exact Aside0.out (by assumption) | with_reducible refine Kd.C_alloc ?_ _ | with_reducible refine Kd.C_drewN ?_ _ | with_reducible refine Kd.C_drew ?_ | refine Kd.C_below ?_ (Aside0.out (by assumption))))); (case c1 => assumption); rintro e w6 ⟨v, rfl, ho, hb⟩; obtain ⟨A6, c6, rfl⟩ := Kd.R_slice ho; have HC6 := Aside0.mk (Kd.R_reads' ho).2.2; have hc6 := (Kd.R_reads' ho).2.1; have HB6 := Aside0.mk hb; have HO6 := Aside0.mk ho; clear hb ho; have HXx := Aside0.mk (box_step (((Boxed.new w5 27 (.slice A3 x.length c3)).alloc _).alloc _) HB6.out); have HXy := Aside0.mk (box_step ((Boxed.new1 w5 _ 27 (.slice A4 y.length c4)).alloc _) HB6.out); have HXn := Aside0.mk (box_step (Boxed.new2 w5 _ _ 27 (.slice A5 n.length c5)) HB6.out); have hx_n_w6 : World.cell? w6 ⟨w5.heap.size + 1 + 1, 0, none⟩ = some (.slice A5 n.length c5) := Boxed.cell (t := 27) (by repeat (first | with_reducible exact Aside0.out (by assumption) | with_reducible refine Boxed.alloc ?_ _ | with_reducible refine Boxed.drewN ?_ _ | with_reducible refine Boxed.drew ?_ | refine box_step ?_ (Aside0.out (by assumption)))))
      | (go_at_call 39; (with_reducible refine (modular_Add.calls k _ _ l0 _ _ l1 _ _ l2 d1 e1 _ ?s0 ?c0 ?s1 ?c1 ?s2 ?c2 HD1.out).mono ?_); (case s0 => exact (by repeat (first | with_reducible exact Aside0.out (by assumption) | with_reducible refine Kd.C_alloc ?_ _ | with_reducible refine Kd.C_drewN ?_ _ | with_reducible refine Kd.C_drew ?_ | refine Kd.C_below ?_ (Aside0.out (by assumption))))); (case c0 => assumption); (case s1 => exact (by repeat (first | with_reducible exact Aside0.out (by assumption) | with_reducible refine Kd.C_alloc ?_ _ | with_reducible refine Kd.C_drewN ?_ _ | with_reducible refine Kd.C_drew ?_ | refine Kd.C_below ?_ (Aside0.out (by assumption))))); (case c1 => assumption); (case s2 => exact (by repeat (first | with_reducible exact Aside0.out (by assumption) | with_reducible refine Kd.C_alloc ?_ _ | with_reducible refine Kd.C_drewN ?_ _ | with_reducible refine Kd.C_drew ?_ | refine Kd.C_below ?_ (Aside0.out (by assumption))))); (case c2 => assumption); rintro e w7 ⟨v, rfl, ho, hb⟩; obtain ⟨A7, c7, rfl⟩ := Kd.R_slice ho; have HC7 := Aside0.mk (Kd.R_reads' ho).2.2; have hc7 := (Kd.R_reads' ho).2.1; have HB7 := Aside0.mk hb; have HO7 := Aside0.mk ho; clear hb ho; have hx_n_w7 : World.cell? w7 ⟨w5.heap.size + 1 + 1, 0, none⟩ = some (.slice A5 n.length c5) := Boxed.cell (t := 27) (by repeat (first | with_reducible exact Aside0.out (by assumption) | with_reducible refine Boxed.alloc ?_ _ | with_reducible refine Boxed.drewN ?_ _ | with_reducible refine Boxed.drew ?_ | refine box_step ?_ (Aside0.out (by assumption)))))
      | (go_at_call 34; (with_reducible refine (modular_Mul.calls k _ _ l0 _ _ l1 _ _ l2 d2 e2 _ ?s0 ?c0 ?s1 ?c1 ?s2 ?c2 HD2.out).mono ?_); (case s0 => exact (by repeat (first | with_reducible exact Aside0.out (by assumption) | with_reducible refine Kd.C_alloc ?_ _ | with_reducible refine Kd.C_drewN ?_ _ | with_reducible refine Kd.C_drew ?_ | refine Kd.C_below ?_ (Aside0.out (by assumption))))); (case c0 => assumption); (case s1 => exact (by repeat (first | with_reducible exact Aside0.out (by assumption) | with_reducible refine Kd.C_alloc ?_ _ | with_reducible refine Kd.C_drewN ?_ _ | with_reducible refine Kd.C_drew ?_ | refine Kd.C_below ?_ (Aside0.out (by assumption))))); (case c1 => assumption); (case s2 => exact (by repeat (first | with_reducible exact Aside0.out (by assumption) | with_reducible refine Kd.C_alloc ?_ _ | with_reducible refine Kd.C_drewN ?_ _ | with_reducible refine Kd.C_drew ?_ | refine Kd.C_below ?_ (Aside0.out (by assumption))))); (case c2 => assumption); rintro e w8 ⟨v, rfl, ho, hb⟩; obtain ⟨A8, c8, rfl⟩ := Kd.R_slice ho; have HC8 := Aside0.mk (Kd.R_reads' ho).2.2; have hc8 := (Kd.R_reads' ho).2.1; have HB8 := Aside0.mk hb; have HO8 := Aside0.mk ho; clear hb ho; have hx_n_w8 : World.cell? w8 ⟨w5.heap.size + 1 + 1, 0, none⟩ = some (.slice A5 n.length c5) := Boxed.cell (t := 27) (by repeat (first | with_reducible exact Aside0.out (by assumption) | with_reducible refine Boxed.alloc ?_ _ | with_reducible refine Boxed.drewN ?_ _ | with_reducible refine Boxed.drew ?_ | refine box_step ?_ (Aside0.out (by assumption)))))
      | (go_at_call 15; (with_reducible refine (Sums_clo1T.calls k (w5.heap.size) (w5.heap.size + 1 + 1) A3 c3 x A5 c5 n _ _ d0 _ _ _ e0 _ ?b0 ?b1 ?s0 ?c0 ?s1 ?c1 ?s2 ?c2 HT0.out).mono ?_); (case b0 => exact (by repeat (first | with_reducible exact Aside0.out (by assumption) | with_reducible refine Boxed.alloc ?_ _ | with_reducible refine Boxed.drewN ?_ _ | with_reducible refine Boxed.drew ?_ | refine box_step ?_ (Aside0.out (by assumption))))); (case b1 => exact (by repeat (first | with_reducible exact Aside0.out (by assumption) | with_reducible refine Boxed.alloc ?_ _ | with_reducible refine Boxed.drewN ?_ _ | with_reducible refine Boxed.drew ?_ | refine box_step ?_ (Aside0.out (by assumption))))); (case s0 => exact (by repeat (first | with_reducible exact Aside0.out (by assumption) | with_reducible refine Kd.C_alloc ?_ _ | with_reducible refine Kd.C_drewN ?_ _ | with_reducible refine Kd.C_drew ?_ | refine Kd.C_below ?_ (Aside0.out (by assumption))))); (case c0 => assumption); (case s1 => exact (by repeat (first | with_reducible exact Aside0.out (by assumption) | with_reducible refine Kd.C_alloc ?_ _ | with_reducible refine Kd.C_drewN ?_ _ | with_reducible refine Kd.C_drew ?_ | refine Kd.C_below ?_ (Aside0.out (by assumption))))); (case c1 => assumption); (case s2 => exact (by repeat (first | with_reducible exact Aside0.out (by assumption) | with_reducible refine Kd.C_alloc ?_ _ | with_reducible refine Kd.C_drewN ?_ _ | with_reducible refine Kd.C_drew ?_ | refine Kd.C_below ?_ (Aside0.out (by assumption))))); (case c2 => assumption); rintro e wt0 ⟨rfl, hb⟩; have HBt0 := Aside0.mk hb; clear hb; have hx_n_wt0 : World.cell? wt0 ⟨w5.heap.size + 1 + 1, 0, none⟩ = some (.slice A5 n.length c5) := Boxed.cell (t := 27) (by repeat (first | with_reducible exact Aside0.out (by assumption) | with_reducible refine Boxed.alloc ?_ _ | with_reducible refine Boxed.drewN ?_ _ | with_reducible refine Boxed.drew ?_ | refine box_step ?_ (Aside0.out (by assumption)))))
      | (go_at_call 15; (with_reducible refine (Sums_clo2T.calls k (w5.heap.size) (w5.heap.size + 1) (w5.heap.size + 1 + 1) A3 c3 x A4 c4 y A5 c5 n _ _ d1 _ _ _ e1 _ ?b0 ?b1 ?b2 ?s0 ?c0 ?s1 ?c1 ?s2 ?c2 ?s3 ?c3 HT1.out).mono ?_); (case b0 => exact (by repeat (first | with_reducible exact Aside0.out (by assumption) | with_reducible refine Boxed.alloc ?_ _ | with_reducible refine Boxed.drewN ?_ _ | with_reducible refine Boxed.drew ?_ | refine box_step ?_ (Aside0.out (by assumption))))); (case b1 => exact (by repeat (first | with_reducible exact Aside0.out (by assumption) | with_reducible refine Boxed.alloc ?_ _ | with_reducible refine Boxed.drewN ?_ _ | with_reducible refine Boxed.drew ?_ | refine box_step ?_ (Aside0.out (by assumption))))); (case b2 => exact (by repeat (first | with_reducible exact Aside0.out (by assumption) | with_reducible refine Boxed.alloc ?_ _ | with_reducible refine Boxed.drewN ?_ _ | with_reducible refine Boxed.drew ?_ | refine box_step ?_ (Aside0.out (by assumption))))); (case s0 => exact (by repeat (first | with_reducible exact Aside0.out (by assumption) | with_reducible refine Kd.C_alloc ?_ _ | with_reducible refine Kd.C_drewN ?_ _ | with_reducible refine Kd.C_drew ?_ | refine Kd.C_below ?_ (Aside0.out (by assumption))))); (case c0 => assumption); (case s1 => exact (by repeat (first | with_reducible exact Aside0.out (by assumption) | with_reducible refine Kd.C_alloc ?_ _ | with_reducible refine Kd.C_drewN ?_ _ | with_reducible refine Kd.C_drew ?_ | refine Kd.C_below ?_ (Aside0.out (by assumption))))); (case c1 => assumption); (case s2 => exact (by repeat (first | with_reducible exact Aside0.out (by assumption) | with_reducible refine Kd.C_alloc ?_ _ | with_reducible refine Kd.C_drewN ?_ _ | with_reducible refine Kd.C_drew ?_ | refine Kd.C_below ?_ (Aside0.out (by assumption))))); (case c2 => assumption); (case s3 => exact (by repeat (first | with_reducible exact Aside0.out (by assumption) | with_reducible refine Kd.C_alloc ?_ _ | with_reducible refine Kd.C_drewN ?_ _ | with_reducible refine Kd.C_drew ?_ | refine Kd.C_below ?_ (Aside0.out (by assumption))))); (case c3 => assumption); rintro e wt1 ⟨rfl, hb⟩; have HBt1 := Aside0.mk hb; clear hb; have hx_n_wt1 : World.cell? wt1 ⟨w5.heap.size + 1 + 1, 0, none⟩ = some (.slice A5 n.length c5) := Boxed.cell (t := 27) (by repeat (first | with_reducible exact Aside0.out (by assumption) | with_reducible refine Boxed.alloc ?_ _ | with_reducible refine Boxed.drewN ?_ _ | with_reducible refine Boxed.drew ?_ | refine box_step ?_ (Aside0.out (by assumption)))))
      | (go_at_call 15; (with_reducible refine (Sums_clo3T.calls k (w5.heap.size) (w5.heap.size + 1) (w5.heap.size + 1 + 1) A3 c3 x A4 c4 y A5 c5 n _ _ d2 _ _ _ e2 _ ?b0 ?b1 ?b2 ?s0 ?c0 ?s1 ?c1 ?s2 ?c2 ?s3 ?c3 HT2.out).mono ?_); (case b0 => exact (by repeat (first | with_reducible exact Aside0.out (by assumption) | with_reducible refine Boxed.alloc ?_ _ | with_reducible refine Boxed.drewN ?_ _ | with_reducible refine Boxed.drew ?_ | refine box_step ?_ (Aside0.out (by assumption))))); (case b1 => exact (by repeat (first | with_reducible exact Aside0.out (by assumption) | with_reducible refine Boxed.alloc ?_ _ | with_reducible refine Boxed.drewN ?_ _ | with_reducible refine Boxed.drew ?_ | refine box_step ?_ (Aside0.out (by assumption))))); (case b2 => exact (by repeat (first | with_reducible exact Aside0.out (by assumption) | with_reducible refine Boxed.alloc ?_ _ | with_reducible refine Boxed.drewN ?_ _ | with_reducible refine Boxed.drew ?_ | refine box_step ?_ (Aside0.out (by assumption))))); (case s0 => exact (by repeat (first | with_reducible exact Aside0.out (by assumption) | with_reducible refine Kd.C_alloc ?_ _ | with_reducible refine Kd.C_drewN ?_ _ | with_reducible refine Kd.C_drew ?_ | refine Kd.C_below ?_ (Aside0.out (by assumption))))); (case c0 => assumption); (case s1 => exact (by repeat (first | with_reducible exact Aside0.out (by assumption) | with_reducible refine Kd.C_alloc ?_ _ | with_reducible refine Kd.C_drewN ?_ _ | with_reducible refine Kd.C_drew ?_ | refine Kd.C_below ?_ (Aside0.out (by assumption))))); (case c1 => assumption); (case s2 => exact (by repeat (first | with_reducible exact Aside0.out (by assumption) | with_reducible refine Kd.C_alloc ?_ _ | with_reducible refine Kd.C_drewN ?_ _ | with_reducible refine Kd.C_drew ?_ | refine Kd.C_below ?_ (Aside0.out (by assumption))))); (case c2 => assumption); (case s3 => exact (by repeat (first | with_reducible exact Aside0.out (by assumption) | with_reducible refine Kd.C_alloc ?_ _ | with_reducible refine Kd.C_drewN ?_ _ | with_reducible refine Kd.C_drew ?_ | refine Kd.C_below ?_ (Aside0.out (by assumption))))); (case c3 => assumption); rintro e wt2 ⟨rfl, hb⟩; have HBt2 := Aside0.mk hb; clear hb; have hx_n_wt2 : World.cell? wt2 ⟨w5.heap.size + 1 + 1, 0, none⟩ = some (.slice A5 n.length c5) := Boxed.cell (t := 27) (by repeat (first | with_reducible exact Aside0.out (by assumption) | with_reducible refine Boxed.alloc ?_ _ | with_reducible refine Boxed.drewN ?_ _ | with_reducible refine Boxed.drew ?_ | refine box_step ?_ (Aside0.out (by assumption))))))
    go_ret
    exact ⟨rfl, (by repeat (first | with_reducible exact Below.refl _ _ | with_reducible exact Aside0.out (by assumption) | with_reducible refine below_alloc ?_ _ | with_reducible refine pw_below_drewN ?_ _ | with_reducible refine below_drew1 ?_ | refine below_step ?_ (Aside0.out (by assumption))))⟩

/-- THE ONE PURE STATEMENT of latchkeylaw02_ModularSums. -/
def latchkeylaw02_ModularSums.Pure : Prop := ∀ (l0 : List Int) (l1 : List Int) (l2 : List Int), l0.length ≤ maxLen → l0.length * 8 ≤ 140737488351232 → (∀ x ∈ l0, (Lit.int .u64 x).wf = true) → l1.length ≤ maxLen → l1.length * 8 ≤ 140737488351232 → (∀ x ∈ l1, (Lit.int .u64 x).wf = true) → l2.length ≤ maxLen → l2.length * 8 ≤ 140737488351232 → (∀ x ∈ l2, (Lit.int .u64 x).wf = true) → ∃ k, latchkeylaw02_ModularSums.f k l0 l1 l2 = some true
theorem latchkeylaw02_ModularSums.walk (P : latchkeylaw02_ModularSums.Pure) (a0 : Option Addr) (len0 cap0 : Nat) (z0 : List Int) (a1 : Option Addr) (len1 cap1 : Nat) (z1 : List Int) (a2 : Option Addr) (len2 cap2 : Nat) (z2 : List Int) (w : World) (w0 : (a0 = none ∧ len0 = 0 ∧ cap0 = 0 ∧ z0 = []) ∨ ∃ x, a0 = some x ∧ len0 ≤ cap0 ∧ cap0 ≤ maxLen ∧ z0.length = cap0 ∧ (∀ i, i < z0.length → w.cell? (x.add i) = some (.int .u64 (z0.getD i 0))) ∧ ∀ n ∈ z0, (Lit.int .u64 n).wf = true) (y0 : len0 * 8 ≤ 140737488351232) (w1 : (a1 = none ∧ len1 = 0 ∧ cap1 = 0 ∧ z1 = []) ∨ ∃ x, a1 = some x ∧ len1 ≤ cap1 ∧ cap1 ≤ maxLen ∧ z1.length = cap1 ∧ (∀ i, i < z1.length → w.cell? (x.add i) = some (.int .u64 (z1.getD i 0))) ∧ ∀ n ∈ z1, (Lit.int .u64 n).wf = true) (y1 : len1 * 8 ≤ 140737488351232) (w2 : (a2 = none ∧ len2 = 0 ∧ cap2 = 0 ∧ z2 = []) ∨ ∃ x, a2 = some x ∧ len2 ≤ cap2 ∧ cap2 ≤ maxLen ∧ z2.length = cap2 ∧ (∀ i, i < z2.length → w.cell? (x.add i) = some (.int .u64 (z2.getD i 0))) ∧ ∀ n ∈ z2, (Lit.int .u64 n).wf = true) (y2 : len2 * 8 ≤ 140737488351232) :
    Calls Try.prog 8 #[.slice a0 len0 cap0, .slice a1 len1 cap1, .slice a2 len2 cap2] w fun e w' => e = .returned (.bool true) ∧ Below w.heap.size w w' := by
  obtain ⟨l0, rfl, hr0, hm0, hw0, hc0⟩ := ReadsInt.ofRowC w0
  obtain ⟨l1, rfl, hr1, hm1, hw1, hc1⟩ := ReadsInt.ofRowC w1
  obtain ⟨l2, rfl, hr2, hm2, hw2, hc2⟩ := ReadsInt.ofRowC w2
  obtain ⟨k, h⟩ := P l0 l1 l2 hm0 y0 hw0 hm1 y1 hw1 hm2 y2 hw2
  exact latchkeylaw02_ModularSums.calls k _ _ l0 _ _ l1 _ _ l2 w (Kd.C_of_reads (d := (0 : Int)) (h1 := fun _ => rfl) hr0) hc0 (Kd.C_of_reads (d := (0 : Int)) (h1 := fun _ => rfl) hr1) hc1 (Kd.C_of_reads (d := (0 : Int)) (h1 := fun _ => rfl) hr2) hc2 h

end Go.Proofs.Ytanjbjenohdodaa.B
