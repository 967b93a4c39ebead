/- A part of the proof (merged by pack.py, a program of this session: what the row's proof names). -/
import Derived.Test.YtgnaaaliadiekaaM4
import Derived.Test.YtgnaaaliadiekaaM7
import Derived.Test.YtgnaaaliadiekaaM0
section
namespace Go.Proofs.Ytgnaaaliadiekaa.B
open Go.RowKit Go.Proofs.YtgnaaaliadiekaaW.PrintWords Go.Proofs.YtgnaaaliadiekaaW.PrintLast Go.Proofs.YtgnaaaliadiekaaW.PrintMore
attribute [local go_sem] ycj ych ycs ycr ybw ybv yci ycg   -- for this text's walks alone
attribute [local go_sem] yca ybn ybz ybm
set_option linter.unusedVariables false
set_option linter.unusedSimpArgs false
def ybk.f (k : Nat) (a0 : Int) : Option (List Int × List Int × List Int) := if (Int.tmod a0 2) = 0 then ((yag.f k (⟨#[97, 49, 101, 51, 54, 51, 50, 99, 101, 54, 52, 102, 101, 102, 50, 55, 49, 51, 99, 97, 56, 54, 48, 51, 51, 98, 100, 49, 101, 49, 99, 99, 97, 49, 99, 98, 53, 54, 48, 48, 52, 97, 100, 98, 53, 49, 57, 100, 101, 102, 101, 98, 98, 55, 51, 99, 102, 55, 100, 98, 99, 97, 55, 55, 54, 55, 57, 52, 57, 51, 101, 56, 56, 102, 97, 57, 100, 57, 99, 49, 50, 55, 55, 53, 54, 100, 101, 48, 102, 101, 57, 53, 54, 100, 55, 98, 53, 49, 49, 50, 49, 56, 102, 100, 56, 98, 100, 55, 99, 98, 52, 56, 98, 55, 54, 55, 54, 50, 98, 100, 51, 54, 102, 102, 55, 98, 102, 55]⟩ : ByteArray)).bind fun t1001 => ((yag.f k (⟨#[49, 48, 48, 48, 49]⟩ : ByteArray)).bind fun t1004 => ((yag.f k (⟨#[50, 100, 56, 51, 53, 57, 50, 57, 57, 49, 54, 50, 57, 100, 98, 48, 100, 53, 99, 101, 57, 53, 53, 56, 97, 57, 54, 51, 98, 98, 54, 48, 97, 53, 56, 56, 49, 101, 49, 56, 57, 99, 102, 51, 48, 54, 48, 50, 50, 97, 50, 54, 57, 49, 102, 48, 57, 49, 49, 97, 55, 56, 100, 52, 50, 48, 55, 100, 98, 48, 100, 49, 57, 54, 52, 101, 51, 98, 48, 51, 51, 98, 98, 101, 49, 56, 99, 53, 56, 97, 57, 55, 51, 55, 50, 97, 97, 48, 48, 55, 48, 51, 54, 48, 99, 48, 56, 102, 97, 101, 102, 102, 50, 51, 100, 52, 97, 53, 98, 97, 50, 100, 99, 54, 55, 50, 50, 57]⟩ : ByteArray)).bind fun t1007 => (some (t1001, t1004, t1007))))) else ((yag.f k (⟨#[100, 49, 48, 51, 50, 49, 100, 98, 55, 56, 98, 101, 97, 98, 101, 99, 48, 102, 100, 97, 52, 102, 52, 51, 101, 53, 100, 52, 54, 97, 52, 99, 55, 56, 102, 100, 101, 54, 53, 55, 52, 54, 97, 98, 100, 52, 55, 100, 99, 55, 53, 57, 97, 55, 98, 48, 57, 101, 50, 56, 102, 52, 51, 50, 102, 56, 50, 54, 55, 52, 97, 102, 50, 101, 99, 54, 53, 49, 52, 55, 57, 55, 102, 52, 100, 102, 100, 50, 56, 55, 99, 98, 55, 98, 98, 50, 48, 56, 53, 57, 102, 57, 53, 51, 97, 55, 57, 99, 52, 100, 102, 55, 48, 99, 57, 50, 101, 57, 97, 50, 48, 97, 101, 50, 100, 98, 49, 55]⟩ : ByteArray)).bind fun t1010 => ((yag.f k (⟨#[51]⟩ : ByteArray)).bind fun t1013 => ((yag.f k (⟨#[56, 98, 53, 55, 54, 98, 101, 55, 97, 53, 100, 52, 55, 50, 57, 100, 53, 102, 101, 54, 100, 102, 56, 50, 57, 57, 51, 56, 52, 54, 100, 100, 97, 53, 102, 101, 57, 57, 56, 102, 56, 52, 55, 50, 56, 100, 97, 57, 50, 102, 57, 49, 49, 97, 55, 53, 98, 101, 99, 53, 102, 56, 50, 48, 99, 53, 57, 57, 54, 100, 99, 57, 52, 97, 100, 54, 48, 98, 56, 101, 101, 99, 97, 54, 56, 50, 53, 100, 57, 57, 54, 52, 50, 56, 52, 53, 97, 56, 98, 102, 52, 102, 57, 49, 57, 55, 97, 54, 102, 57, 53, 100, 57, 100, 51, 50, 48, 53, 55, 56, 52, 50, 48, 52, 99, 100, 54, 98]⟩ : ByteArray)).bind fun t1016 => (some (t1010, t1013, t1016)))))
theorem ybk.mono : ∀ a0 k, LeO (ybk.f k a0) (ybk.f (k + 1) a0) := by
 intro a0 k
 unfold ybk.f
 repeat' first
  | (with_reducible exact yag.mono _ _)
  | (with_reducible exact LeO.refl _)
  | (with_reducible exact LeO.none _)
  | (with_reducible refine LeO.ite ?_ ?_)
  | (with_reducible refine LeO.bind ?_ (fun _ => ?_))
  | exact yag.mono _ _
  | exact LeO.none _
  | refine LeO.ite ?_ ?_
  | refine LeO.bind ?_ (fun _ => ?_)
set_option maxHeartbeats 8000000 in
set_option maxRecDepth 100000 in
theorem ybk.calls (k : Nat) (a0 : Int) (r1 : List Int) (r2 : List Int) (r3 : List Int) (w : World) (h : ybk.f k a0 = some (r1, r2, r3)) :
 Calls Try.prog 47 #[.int .i64 a0] w fun e w' => ∃ v0_ v1_ v2_ : Value, e = .returned (.tuple #[v0_, v1_, v2_]) ∧ Kd.R (Kd.int .i64) 3 w' w.heap.size (fun k_ => some k_ ≠ (v1_ : Value).ownBlock ∧ some k_ ≠ (v2_ : Value).ownBlock) v0_ r1 ∧ Kd.R (Kd.int .i64) 3 w' w.heap.size (fun k_ => some k_ ≠ (v0_ : Value).ownBlock ∧ some k_ ≠ (v2_ : Value).ownBlock) v1_ r2 ∧ Kd.R (Kd.int .i64) 3 w' w.heap.size (fun k_ => some k_ ≠ (v0_ : Value).ownBlock ∧ some k_ ≠ (v1_ : Value).ownBlock) v2_ r3 ∧ Below w.heap.size w w' := by
 have HB := Aside0.mk (Below.refl w.heap.size w)
 have H : (if (Int.tmod a0 2) = 0 then ((yag.f k (⟨#[97, 49, 101, 51, 54, 51, 50, 99, 101, 54, 52, 102, 101, 102, 50, 55, 49, 51, 99, 97, 56, 54, 48, 51, 51, 98, 100, 49, 101, 49, 99, 99, 97, 49, 99, 98, 53, 54, 48, 48, 52, 97, 100, 98, 53, 49, 57, 100, 101, 102, 101, 98, 98, 55, 51, 99, 102, 55, 100, 98, 99, 97, 55, 55, 54, 55, 57, 52, 57, 51, 101, 56, 56, 102, 97, 57, 100, 57, 99, 49, 50, 55, 55, 53, 54, 100, 101, 48, 102, 101, 57, 53, 54, 100, 55, 98, 53, 49, 49, 50, 49, 56, 102, 100, 56, 98, 100, 55, 99, 98, 52, 56, 98, 55, 54, 55, 54, 50, 98, 100, 51, 54, 102, 102, 55, 98, 102, 55]⟩ : ByteArray)).bind fun t1001 => ((yag.f k (⟨#[49, 48, 48, 48, 49]⟩ : ByteArray)).bind fun t1004 => ((yag.f k (⟨#[50, 100, 56, 51, 53, 57, 50, 57, 57, 49, 54, 50, 57, 100, 98, 48, 100, 53, 99, 101, 57, 53, 53, 56, 97, 57, 54, 51, 98, 98, 54, 48, 97, 53, 56, 56, 49, 101, 49, 56, 57, 99, 102, 51, 48, 54, 48, 50, 50, 97, 50, 54, 57, 49, 102, 48, 57, 49, 49, 97, 55, 56, 100, 52, 50, 48, 55, 100, 98, 48, 100, 49, 57, 54, 52, 101, 51, 98, 48, 51, 51, 98, 98, 101, 49, 56, 99, 53, 56, 97, 57, 55, 51, 55, 50, 97, 97, 48, 48, 55, 48, 51, 54, 48, 99, 48, 56, 102, 97, 101, 102, 102, 50, 51, 100, 52, 97, 53, 98, 97, 50, 100, 99, 54, 55, 50, 50, 57]⟩ : ByteArray)).bind fun t1007 => (some (t1001, t1004, t1007))))) else ((yag.f k (⟨#[100, 49, 48, 51, 50, 49, 100, 98, 55, 56, 98, 101, 97, 98, 101, 99, 48, 102, 100, 97, 52, 102, 52, 51, 101, 53, 100, 52, 54, 97, 52, 99, 55, 56, 102, 100, 101, 54, 53, 55, 52, 54, 97, 98, 100, 52, 55, 100, 99, 55, 53, 57, 97, 55, 98, 48, 57, 101, 50, 56, 102, 52, 51, 50, 102, 56, 50, 54, 55, 52, 97, 102, 50, 101, 99, 54, 53, 49, 52, 55, 57, 55, 102, 52, 100, 102, 100, 50, 56, 55, 99, 98, 55, 98, 98, 50, 48, 56, 53, 57, 102, 57, 53, 51, 97, 55, 57, 99, 52, 100, 102, 55, 48, 99, 57, 50, 101, 57, 97, 50, 48, 97, 101, 50, 100, 98, 49, 55]⟩ : ByteArray)).bind fun t1010 => ((yag.f k (⟨#[51]⟩ : ByteArray)).bind fun t1013 => ((yag.f k (⟨#[56, 98, 53, 55, 54, 98, 101, 55, 97, 53, 100, 52, 55, 50, 57, 100, 53, 102, 101, 54, 100, 102, 56, 50, 57, 57, 51, 56, 52, 54, 100, 100, 97, 53, 102, 101, 57, 57, 56, 102, 56, 52, 55, 50, 56, 100, 97, 57, 50, 102, 57, 49, 49, 97, 55, 53, 98, 101, 99, 53, 102, 56, 50, 48, 99, 53, 57, 57, 54, 100, 99, 57, 52, 97, 100, 54, 48, 98, 56, 101, 101, 99, 97, 54, 56, 50, 53, 100, 57, 57, 54, 52, 50, 56, 52, 53, 97, 56, 98, 102, 52, 102, 57, 49, 57, 55, 97, 54, 102, 57, 53, 100, 57, 100, 51, 50, 48, 53, 55, 56, 52, 50, 48, 52, 99, 100, 54, 98]⟩ : ByteArray)).bind fun t1016 => (some (t1010, t1013, t1016)))))) = some (r1, r2, r3) := h
 clear h
 by_cases c2 : (Int.tmod a0 2) = 0
 · rw [if_pos c2] at H
   have c2b0 : ((Int.tmod a0 2) == 0) = true := beq_iff_eq.mpr c2
   have c2b1 : ((Int.tmod a0 2) != 0) = false := bne_eq_false_iff_eq.mpr c2
   clear c2
   replace H := Option.bind_eq_some_iff.mp H
   obtain ⟨t1001, A30, H⟩ := H
   replace H : ((yag.f k (⟨#[49, 48, 48, 48, 49]⟩ : ByteArray)).bind fun t1004 => ((yag.f k (⟨#[50, 100, 56, 51, 53, 57, 50, 57, 57, 49, 54, 50, 57, 100, 98, 48, 100, 53, 99, 101, 57, 53, 53, 56, 97, 57, 54, 51, 98, 98, 54, 48, 97, 53, 56, 56, 49, 101, 49, 56, 57, 99, 102, 51, 48, 54, 48, 50, 50, 97, 50, 54, 57, 49, 102, 48, 57, 49, 49, 97, 55, 56, 100, 52, 50, 48, 55, 100, 98, 48, 100, 49, 57, 54, 52, 101, 51, 98, 48, 51, 51, 98, 98, 101, 49, 56, 99, 53, 56, 97, 57, 55, 51, 55, 50, 97, 97, 48, 48, 55, 48, 51, 54, 48, 99, 48, 56, 102, 97, 101, 102, 102, 50, 51, 100, 52, 97, 53, 98, 97, 50, 100, 99, 54, 55, 50, 50, 57]⟩ : ByteArray)).bind fun t1007 => (some (t1001, t1004, t1007)))) = some (r1, r2, r3) := H
   have A3 := Aside0.mk A30
   clear A30
   replace H := Option.bind_eq_some_iff.mp H
   obtain ⟨t1004, A40, H⟩ := H
   replace H : ((yag.f k (⟨#[50, 100, 56, 51, 53, 57, 50, 57, 57, 49, 54, 50, 57, 100, 98, 48, 100, 53, 99, 101, 57, 53, 53, 56, 97, 57, 54, 51, 98, 98, 54, 48, 97, 53, 56, 56, 49, 101, 49, 56, 57, 99, 102, 51, 48, 54, 48, 50, 50, 97, 50, 54, 57, 49, 102, 48, 57, 49, 49, 97, 55, 56, 100, 52, 50, 48, 55, 100, 98, 48, 100, 49, 57, 54, 52, 101, 51, 98, 48, 51, 51, 98, 98, 101, 49, 56, 99, 53, 56, 97, 57, 55, 51, 55, 50, 97, 97, 48, 48, 55, 48, 51, 54, 48, 99, 48, 56, 102, 97, 101, 102, 102, 50, 51, 100, 52, 97, 53, 98, 97, 50, 100, 99, 54, 55, 50, 50, 57]⟩ : ByteArray)).bind fun t1007 => (some (t1001, t1004, t1007))) = some (r1, r2, r3) := H
   have A4 := Aside0.mk A40
   clear A40
   replace H := Option.bind_eq_some_iff.mp H
   obtain ⟨t1007, A50, H⟩ := H
   replace H : (some (t1001, t1004, t1007)) = some (r1, r2, r3) := H
   have A5 := Aside0.mk A50
   clear A50
   simp only [Option.some.injEq, Prod.mk.injEq] at H
   obtain ⟨rfl, rfl, rfl⟩ := H
   go_enter Try.func47, Try.ntmps47
   go_wp2_with (first | ((with_reducible refine yar (f := 80) rfl ?_); refine yce (some 8) rfl rfl Try.func80 (by kernel_rfl) rfl #[.string (⟨#[97, 49, 101, 51, 54, 51, 50, 99, 101, 54, 52, 102, 101, 102, 50, 55, 49, 51, 99, 97, 56, 54, 48, 51, 51, 98, 100, 49, 101, 49, 99, 99, 97, 49, 99, 98, 53, 54, 48, 48, 52, 97, 100, 98, 53, 49, 57, 100, 101, 102, 101, 98, 98, 55, 51, 99, 102, 55, 100, 98, 99, 97, 55, 55, 54, 55, 57, 52, 57, 51, 101, 56, 56, 102, 97, 57, 100, 57, 99, 49, 50, 55, 55, 53, 54, 100, 101, 48, 102, 101, 57, 53, 54, 100, 55, 98, 53, 49, 49, 50, 49, 56, 102, 100, 56, 98, 100, 55, 99, 98, 52, 56, 98, 55, 54, 55, 54, 50, 98, 100, 51, 54, 102, 102, 55, 98, 102, 55]⟩ : ByteArray)] rfl Z6_ ?_; (with_reducible refine (yag.calls k (⟨#[97, 49, 101, 51, 54, 51, 50, 99, 101, 54, 52, 102, 101, 102, 50, 55, 49, 51, 99, 97, 56, 54, 48, 51, 51, 98, 100, 49, 101, 49, 99, 99, 97, 49, 99, 98, 53, 54, 48, 48, 52, 97, 100, 98, 53, 49, 57, 100, 101, 102, 101, 98, 98, 55, 51, 99, 102, 55, 100, 98, 99, 97, 55, 55, 54, 55, 57, 52, 57, 51, 101, 56, 56, 102, 97, 57, 100, 57, 99, 49, 50, 55, 55, 53, 54, 100, 101, 48, 102, 101, 57, 53, 54, 100, 55, 98, 53, 49, 49, 50, 49, 56, 102, 100, 56, 98, 100, 55, 99, 98, 52, 56, 98, 55, 54, 55, 54, 50, 98, 100, 51, 54, 102, 102, 55, 98, 102, 55]⟩ : ByteArray) t1001 _ A3.out).mono ?_); rintro e w6 ⟨v1002, rfl, ho0, hb⟩; refine ⟨_, rfl, ?_⟩; have n0_ := Aside0.mk (Kd.ybl ho0 (yaj Z7_)); have n1_ := Aside0.mk (yai Z7_ hb); clear HB; have HO1003 := n0_; have HB := n1_; clear n0_ n1_; (try clear hb); (try clear hb2); (try clear hk); (try clear hi); (try clear ho0)) | ((with_reducible refine yar (f := 80) rfl ?_); refine yce (some 9) rfl rfl Try.func80 (by kernel_rfl) rfl #[.string (⟨#[49, 48, 48, 48, 49]⟩ : ByteArray)] rfl Z6_ ?_; (with_reducible refine (yag.calls k (⟨#[49, 48, 48, 48, 49]⟩ : ByteArray) t1004 _ A4.out).mono ?_); rintro e w7 ⟨v1005, rfl, ho0, hb⟩; refine ⟨_, rfl, ?_⟩; have n0_ := Aside0.mk (Kd.R_elder' Z9_ (Kd.ycf ho0) hb); have n1_ := Aside0.mk (Kd.ybl (Kd.R_new' ho0 (Kd.R_lt Z9_)) (yaj Z7_)); have n2_ := Aside0.mk (yai Z7_ hb); clear HO1003; clear HB; have HO1003 := n0_; have HO1006 := n1_; have HB := n2_; clear n0_ n1_ n2_; (try clear hb); (try clear hb2); (try clear hk); (try clear hi); (try clear ho0)) | ((with_reducible refine yar (f := 80) rfl ?_); refine yce (some 10) rfl rfl Try.func80 (by kernel_rfl) rfl #[.string (⟨#[50, 100, 56, 51, 53, 57, 50, 57, 57, 49, 54, 50, 57, 100, 98, 48, 100, 53, 99, 101, 57, 53, 53, 56, 97, 57, 54, 51, 98, 98, 54, 48, 97, 53, 56, 56, 49, 101, 49, 56, 57, 99, 102, 51, 48, 54, 48, 50, 50, 97, 50, 54, 57, 49, 102, 48, 57, 49, 49, 97, 55, 56, 100, 52, 50, 48, 55, 100, 98, 48, 100, 49, 57, 54, 52, 101, 51, 98, 48, 51, 51, 98, 98, 101, 49, 56, 99, 53, 56, 97, 57, 55, 51, 55, 50, 97, 97, 48, 48, 55, 48, 51, 54, 48, 99, 48, 56, 102, 97, 101, 102, 102, 50, 51, 100, 52, 97, 53, 98, 97, 50, 100, 99, 54, 55, 50, 50, 57]⟩ : ByteArray)] rfl Z6_ ?_; (with_reducible refine (yag.calls k (⟨#[50, 100, 56, 51, 53, 57, 50, 57, 57, 49, 54, 50, 57, 100, 98, 48, 100, 53, 99, 101, 57, 53, 53, 56, 97, 57, 54, 51, 98, 98, 54, 48, 97, 53, 56, 56, 49, 101, 49, 56, 57, 99, 102, 51, 48, 54, 48, 50, 50, 97, 50, 54, 57, 49, 102, 48, 57, 49, 49, 97, 55, 56, 100, 52, 50, 48, 55, 100, 98, 48, 100, 49, 57, 54, 52, 101, 51, 98, 48, 51, 51, 98, 98, 101, 49, 56, 99, 53, 56, 97, 57, 55, 51, 55, 50, 97, 97, 48, 48, 55, 48, 51, 54, 48, 99, 48, 56, 102, 97, 101, 102, 102, 50, 51, 100, 52, 97, 53, 98, 97, 50, 100, 99, 54, 55, 50, 50, 57]⟩ : ByteArray) t1007 _ A5.out).mono ?_); rintro e w8 ⟨v1008, rfl, ho0, hb⟩; refine ⟨_, rfl, ?_⟩; have n0_ := Aside0.mk (Kd.R_elder' Z9_ (Kd.ycf ho0) hb); have n1_ := Aside0.mk (Kd.R_elder' Z10_ (Kd.ycf ho0) hb); have n2_ := Aside0.mk (Kd.ybl (Kd.R_new' (Kd.R_new' ho0 (Kd.R_lt Z9_)) (Kd.R_lt Z10_)) (yaj Z7_)); have n3_ := Aside0.mk (yai Z7_ hb); clear HO1003; clear HO1006; clear HB; have HO1003 := n0_; have HO1006 := n1_; have HO1009 := n2_; have HB := n3_; clear n0_ n1_ n2_ n3_; (try clear hb); (try clear hb2); (try clear hk); (try clear hi); (try clear ho0)))
   go_ret3
   exact ⟨_, _, _, by first | rfl | (simp [yap, yao] <;> rfl) | (simp [*, yap, yao] <;> rfl), by (with_reducible repeat (first | apply Kd.yba | apply Kd.yaz | apply Kd.ybi)); exact Kd.ycn HO1003.out (fun _ hk => ⟨hk.1.2, hk.2⟩), by (with_reducible repeat (first | apply Kd.yba | apply Kd.yaz | apply Kd.ybi)); exact Kd.ycn HO1006.out (fun _ hk => ⟨hk.1.2, hk.2⟩), by (with_reducible repeat (first | apply Kd.yba | apply Kd.yaz | apply Kd.ybi)); exact Kd.ycn HO1009.out (fun _ hk => ⟨hk.1.2, hk.2⟩), by repeat (first | (with_reducible first | exact HB.out | apply yad | apply yab | apply yac) | exact HB.out)⟩
 · rw [if_neg c2] at H
   have c2b0 : ((Int.tmod a0 2) == 0) = false := beq_eq_false_iff_ne.mpr c2
   have c2b1 : ((Int.tmod a0 2) != 0) = true := bne_iff_ne.mpr c2
   replace H := Option.bind_eq_some_iff.mp H
   obtain ⟨t1010, A90, H⟩ := H
   replace H : ((yag.f k (⟨#[51]⟩ : ByteArray)).bind fun t1013 => ((yag.f k (⟨#[56, 98, 53, 55, 54, 98, 101, 55, 97, 53, 100, 52, 55, 50, 57, 100, 53, 102, 101, 54, 100, 102, 56, 50, 57, 57, 51, 56, 52, 54, 100, 100, 97, 53, 102, 101, 57, 57, 56, 102, 56, 52, 55, 50, 56, 100, 97, 57, 50, 102, 57, 49, 49, 97, 55, 53, 98, 101, 99, 53, 102, 56, 50, 48, 99, 53, 57, 57, 54, 100, 99, 57, 52, 97, 100, 54, 48, 98, 56, 101, 101, 99, 97, 54, 56, 50, 53, 100, 57, 57, 54, 52, 50, 56, 52, 53, 97, 56, 98, 102, 52, 102, 57, 49, 57, 55, 97, 54, 102, 57, 53, 100, 57, 100, 51, 50, 48, 53, 55, 56, 52, 50, 48, 52, 99, 100, 54, 98]⟩ : ByteArray)).bind fun t1016 => (some (t1010, t1013, t1016)))) = some (r1, r2, r3) := H
   have A9 := Aside0.mk A90
   clear A90
   replace H := Option.bind_eq_some_iff.mp H
   obtain ⟨t1013, A100, H⟩ := H
   replace H : ((yag.f k (⟨#[56, 98, 53, 55, 54, 98, 101, 55, 97, 53, 100, 52, 55, 50, 57, 100, 53, 102, 101, 54, 100, 102, 56, 50, 57, 57, 51, 56, 52, 54, 100, 100, 97, 53, 102, 101, 57, 57, 56, 102, 56, 52, 55, 50, 56, 100, 97, 57, 50, 102, 57, 49, 49, 97, 55, 53, 98, 101, 99, 53, 102, 56, 50, 48, 99, 53, 57, 57, 54, 100, 99, 57, 52, 97, 100, 54, 48, 98, 56, 101, 101, 99, 97, 54, 56, 50, 53, 100, 57, 57, 54, 52, 50, 56, 52, 53, 97, 56, 98, 102, 52, 102, 57, 49, 57, 55, 97, 54, 102, 57, 53, 100, 57, 100, 51, 50, 48, 53, 55, 56, 52, 50, 48, 52, 99, 100, 54, 98]⟩ : ByteArray)).bind fun t1016 => (some (t1010, t1013, t1016))) = some (r1, r2, r3) := H
   have A10 := Aside0.mk A100
   clear A100
   replace H := Option.bind_eq_some_iff.mp H
   obtain ⟨t1016, A110, H⟩ := H
   replace H : (some (t1010, t1013, t1016)) = some (r1, r2, r3) := H
   have A11 := Aside0.mk A110
   clear A110
   simp only [Option.some.injEq, Prod.mk.injEq] at H
   obtain ⟨rfl, rfl, rfl⟩ := H
   go_enter Try.func47, Try.ntmps47
   go_wp2_with (first | ((with_reducible refine yar (f := 80) rfl ?_); refine yce (some 11) rfl rfl Try.func80 (by kernel_rfl) rfl #[.string (⟨#[100, 49, 48, 51, 50, 49, 100, 98, 55, 56, 98, 101, 97, 98, 101, 99, 48, 102, 100, 97, 52, 102, 52, 51, 101, 53, 100, 52, 54, 97, 52, 99, 55, 56, 102, 100, 101, 54, 53, 55, 52, 54, 97, 98, 100, 52, 55, 100, 99, 55, 53, 57, 97, 55, 98, 48, 57, 101, 50, 56, 102, 52, 51, 50, 102, 56, 50, 54, 55, 52, 97, 102, 50, 101, 99, 54, 53, 49, 52, 55, 57, 55, 102, 52, 100, 102, 100, 50, 56, 55, 99, 98, 55, 98, 98, 50, 48, 56, 53, 57, 102, 57, 53, 51, 97, 55, 57, 99, 52, 100, 102, 55, 48, 99, 57, 50, 101, 57, 97, 50, 48, 97, 101, 50, 100, 98, 49, 55]⟩ : ByteArray)] rfl Z6_ ?_; (with_reducible refine (yag.calls k (⟨#[100, 49, 48, 51, 50, 49, 100, 98, 55, 56, 98, 101, 97, 98, 101, 99, 48, 102, 100, 97, 52, 102, 52, 51, 101, 53, 100, 52, 54, 97, 52, 99, 55, 56, 102, 100, 101, 54, 53, 55, 52, 54, 97, 98, 100, 52, 55, 100, 99, 55, 53, 57, 97, 55, 98, 48, 57, 101, 50, 56, 102, 52, 51, 50, 102, 56, 50, 54, 55, 52, 97, 102, 50, 101, 99, 54, 53, 49, 52, 55, 57, 55, 102, 52, 100, 102, 100, 50, 56, 55, 99, 98, 55, 98, 98, 50, 48, 56, 53, 57, 102, 57, 53, 51, 97, 55, 57, 99, 52, 100, 102, 55, 48, 99, 57, 50, 101, 57, 97, 50, 48, 97, 101, 50, 100, 98, 49, 55]⟩ : ByteArray) t1010 _ A9.out).mono ?_); rintro e w12 ⟨v1011, rfl, ho0, hb⟩; refine ⟨_, rfl, ?_⟩; have n0_ := Aside0.mk (Kd.ybl ho0 (yaj Z7_)); have n1_ := Aside0.mk (yai Z7_ hb); clear HB; have HO1012 := n0_; have HB := n1_; clear n0_ n1_; (try clear hb); (try clear hb2); (try clear hk); (try clear hi); (try clear ho0)) | ((with_reducible refine yar (f := 80) rfl ?_); refine yce (some 12) rfl rfl Try.func80 (by kernel_rfl) rfl #[.string (⟨#[51]⟩ : ByteArray)] rfl Z6_ ?_; (with_reducible refine (yag.calls k (⟨#[51]⟩ : ByteArray) t1013 _ A10.out).mono ?_); rintro e w13 ⟨v1014, rfl, ho0, hb⟩; refine ⟨_, rfl, ?_⟩; have n0_ := Aside0.mk (Kd.R_elder' Z11_ (Kd.ycf ho0) hb); have n1_ := Aside0.mk (Kd.ybl (Kd.R_new' ho0 (Kd.R_lt Z11_)) (yaj Z7_)); have n2_ := Aside0.mk (yai Z7_ hb); clear HO1012; clear HB; have HO1012 := n0_; have HO1015 := n1_; have HB := n2_; clear n0_ n1_ n2_; (try clear hb); (try clear hb2); (try clear hk); (try clear hi); (try clear ho0)) | ((with_reducible refine yar (f := 80) rfl ?_); refine yce (some 13) rfl rfl Try.func80 (by kernel_rfl) rfl #[.string (⟨#[56, 98, 53, 55, 54, 98, 101, 55, 97, 53, 100, 52, 55, 50, 57, 100, 53, 102, 101, 54, 100, 102, 56, 50, 57, 57, 51, 56, 52, 54, 100, 100, 97, 53, 102, 101, 57, 57, 56, 102, 56, 52, 55, 50, 56, 100, 97, 57, 50, 102, 57, 49, 49, 97, 55, 53, 98, 101, 99, 53, 102, 56, 50, 48, 99, 53, 57, 57, 54, 100, 99, 57, 52, 97, 100, 54, 48, 98, 56, 101, 101, 99, 97, 54, 56, 50, 53, 100, 57, 57, 54, 52, 50, 56, 52, 53, 97, 56, 98, 102, 52, 102, 57, 49, 57, 55, 97, 54, 102, 57, 53, 100, 57, 100, 51, 50, 48, 53, 55, 56, 52, 50, 48, 52, 99, 100, 54, 98]⟩ : ByteArray)] rfl Z6_ ?_; (with_reducible refine (yag.calls k (⟨#[56, 98, 53, 55, 54, 98, 101, 55, 97, 53, 100, 52, 55, 50, 57, 100, 53, 102, 101, 54, 100, 102, 56, 50, 57, 57, 51, 56, 52, 54, 100, 100, 97, 53, 102, 101, 57, 57, 56, 102, 56, 52, 55, 50, 56, 100, 97, 57, 50, 102, 57, 49, 49, 97, 55, 53, 98, 101, 99, 53, 102, 56, 50, 48, 99, 53, 57, 57, 54, 100, 99, 57, 52, 97, 100, 54, 48, 98, 56, 101, 101, 99, 97, 54, 56, 50, 53, 100, 57, 57, 54, 52, 50, 56, 52, 53, 97, 56, 98, 102, 52, 102, 57, 49, 57, 55, 97, 54, 102, 57, 53, 100, 57, 100, 51, 50, 48, 53, 55, 56, 52, 50, 48, 52, 99, 100, 54, 98]⟩ : ByteArray) t1016 _ A11.out).mono ?_); rintro e w14 ⟨v1017, rfl, ho0, hb⟩; refine ⟨_, rfl, ?_⟩; have n0_ := Aside0.mk (Kd.R_elder' Z11_ (Kd.ycf ho0) hb); have n1_ := Aside0.mk (Kd.R_elder' (by (with_reducible repeat (first | apply Kd.yba | apply Kd.yaz | apply Kd.ybi)); exact HO1015.out) (Kd.ycf ho0) hb); have n2_ := Aside0.mk (Kd.ybl (Kd.R_new' (Kd.R_new' ho0 (Kd.R_lt Z11_)) (Kd.R_lt (by (with_reducible repeat (first | apply Kd.yba | apply Kd.yaz | apply Kd.ybi)); exact HO1015.out))) (yaj Z7_)); have n3_ := Aside0.mk (yai Z7_ hb); clear HO1012; clear HO1015; clear HB; have HO1012 := n0_; have HO1015 := n1_; have HO1018 := n2_; have HB := n3_; clear n0_ n1_ n2_ n3_; (try clear hb); (try clear hb2); (try clear hk); (try clear hi); (try clear ho0)))
   go_ret3
   exact ⟨_, _, _, by first | rfl | (simp [yap, yao] <;> rfl) | (simp [*, yap, yao] <;> rfl), by (with_reducible repeat (first | apply Kd.yba | apply Kd.yaz | apply Kd.ybi)); exact Kd.ycn HO1012.out (fun _ hk => ⟨hk.1.2, hk.2⟩), by (with_reducible repeat (first | apply Kd.yba | apply Kd.yaz | apply Kd.ybi)); exact Kd.ycn HO1015.out (fun _ hk => ⟨hk.1.2, hk.2⟩), by (with_reducible repeat (first | apply Kd.yba | apply Kd.yaz | apply Kd.ybi)); exact Kd.ycn HO1018.out (fun _ hk => ⟨hk.1.2, hk.2⟩), by repeat (first | (with_reducible first | exact HB.out | apply yad | apply yab | apply yac) | exact HB.out)⟩
end Go.Proofs.Ytgnaaaliadiekaa.B
end
section
namespace Go.Proofs.Ytgnaaaliadiekaa.B
open Go.RowKit Go.Proofs.YtgnaaaliadiekaaW.PrintWords Go.Proofs.YtgnaaaliadiekaaW.PrintLast Go.Proofs.YtgnaaaliadiekaaW.PrintMore
attribute [local go_sem] ycj ych ycs ycr ybw ybv yci ycg   -- for this text's walks alone
attribute [local go_sem] yca ybn ybz ybm
set_option linter.unusedVariables false
set_option linter.unusedSimpArgs false
def bits_Mul64.f (a0 : Int) (a1 : Int) : Option (Int × Int) := some (IntKind.u64.wrap ((IntKind.u64.wrap ((IntKind.u64.wrap ((a0 / 4294967296) * (a1 / 4294967296))) + ((IntKind.u64.wrap ((IntKind.u64.wrap ((a0 / 4294967296) * (Go.bits .and .u64 a1 4294967295))) + ((IntKind.u64.wrap ((Go.bits .and .u64 a0 4294967295) * (Go.bits .and .u64 a1 4294967295))) / 4294967296))) / 4294967296))) + ((IntKind.u64.wrap ((Go.bits .and .u64 (IntKind.u64.wrap ((IntKind.u64.wrap ((a0 / 4294967296) * (Go.bits .and .u64 a1 4294967295))) + ((IntKind.u64.wrap ((Go.bits .and .u64 a0 4294967295) * (Go.bits .and .u64 a1 4294967295))) / 4294967296))) 4294967295) + (IntKind.u64.wrap ((Go.bits .and .u64 a0 4294967295) * (a1 / 4294967296))))) / 4294967296)), IntKind.u64.wrap (a0 * a1))
set_option maxHeartbeats 8000000 in
set_option maxRecDepth 100000 in
theorem bits_Mul64.calls (a0 : Int) (a1 : Int) (r1 : Int) (r2 : Int) (w : World) (h : bits_Mul64.f a0 a1 = some (r1, r2)) :
 Calls Try.prog 92 #[.int .u64 a0, .int .u64 a1] w fun e w' => e = .returned (.tuple #[.int .u64 r1, .int .u64 r2]) ∧ ybj w w' := by
 have H : (some (IntKind.u64.wrap ((IntKind.u64.wrap ((IntKind.u64.wrap ((a0 / 4294967296) * (a1 / 4294967296))) + ((IntKind.u64.wrap ((IntKind.u64.wrap ((a0 / 4294967296) * (Go.bits .and .u64 a1 4294967295))) + ((IntKind.u64.wrap ((Go.bits .and .u64 a0 4294967295) * (Go.bits .and .u64 a1 4294967295))) / 4294967296))) / 4294967296))) + ((IntKind.u64.wrap ((Go.bits .and .u64 (IntKind.u64.wrap ((IntKind.u64.wrap ((a0 / 4294967296) * (Go.bits .and .u64 a1 4294967295))) + ((IntKind.u64.wrap ((Go.bits .and .u64 a0 4294967295) * (Go.bits .and .u64 a1 4294967295))) / 4294967296))) 4294967295) + (IntKind.u64.wrap ((Go.bits .and .u64 a0 4294967295) * (a1 / 4294967296))))) / 4294967296)), IntKind.u64.wrap (a0 * a1))) = some (r1, r2) := h
 clear h
 simp only [Option.some.injEq, Prod.mk.injEq] at H
 obtain ⟨rfl, rfl⟩ := H
 go_enter Try.func92, Try.ntmps92
 go_wp2
 go_ret2
 exact ⟨by first | rfl | (simp; done) | (simp [*]; done), by repeat (first | exact ybj.refl _ | apply ybj.step)⟩
end Go.Proofs.Ytgnaaaliadiekaa.B
end
section
namespace Go.Proofs.Ytgnaaaliadiekaa.B
open Go.RowKit Go.Proofs.YtgnaaaliadiekaaW.PrintWords Go.Proofs.YtgnaaaliadiekaaW.PrintLast Go.Proofs.YtgnaaaliadiekaaW.PrintMore
attribute [local go_sem] ycj ych ycs ycr ybw ybv yci ycg   -- for this text's walks alone
attribute [local go_sem] yca ybn ybz ybm
set_option linter.unusedVariables false
set_option linter.unusedSimpArgs false
def bits_Mul.f (a0 : Int) (a1 : Int) : Option (Int × Int) := (bits_Mul64.f a0 a1).bind fun bt1001 => (some (bt1001.1, bt1001.2))
set_option maxHeartbeats 8000000 in
set_option maxRecDepth 100000 in
theorem bits_Mul.calls (a0 : Int) (a1 : Int) (r1 : Int) (r2 : Int) (w : World) (h : bits_Mul.f a0 a1 = some (r1, r2)) :
 Calls Try.prog 78 #[.int .u64 a0, .int .u64 a1] w fun e w' => e = .returned (.tuple #[.int .u64 r1, .int .u64 r2]) ∧ ybj w w' := by
 have H : ((bits_Mul64.f a0 a1).bind fun bt1001 => (some (bt1001.1, bt1001.2))) = some (r1, r2) := h
 clear h
 replace H := Option.bind_eq_some_iff.mp H
 obtain ⟨⟨t1001, t1002⟩, A30, H⟩ := H
 replace H : (some (t1001, t1002)) = some (r1, r2) := H
 have A3 := Aside0.mk A30
 clear A30
 simp only [Option.some.injEq, Prod.mk.injEq] at H
 obtain ⟨rfl, rfl⟩ := H
 go_enter Try.func78, Try.ntmps78
 go_wp2_with (first | ((with_reducible refine yar (f := 92) rfl ?_); refine yce (some 25) rfl rfl Try.func92 (by kernel_rfl) rfl #[.int .u64 a0, .int .u64 a1] rfl Z6_ ?_; (with_reducible refine (bits_Mul64.calls a0 a1 t1001 t1002 _ A3.out).mono ?_); rintro e w' ⟨rfl, ⟨nd, rfl⟩⟩; refine ⟨_, rfl, ?_⟩))
 go_ret2
 exact ⟨by first | rfl | (simp; done) | (simp [*]; done), by repeat (first | exact ybj.refl _ | apply ybj.step)⟩
end Go.Proofs.Ytgnaaaliadiekaa.B
end
