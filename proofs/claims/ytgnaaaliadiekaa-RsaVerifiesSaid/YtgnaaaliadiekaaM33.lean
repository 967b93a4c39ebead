/- A part of the proof (merged by pack.py, a program of this session: what the row's proof names). -/
import Derived.Test.YtgnaaaliadiekaaM4
import Derived.Test.YtgnaaaliadiekaaM9
import Derived.Test.YtgnaaaliadiekaaM12
import Derived.Test.YtgnaaaliadiekaaM13
import Derived.Test.YtgnaaaliadiekaaM32
import Derived.Test.YtgnaaaliadiekaaM0
import Derived.Deep.RegionWith
import Derived.LoopIn
import Derived.LoopNIn
import Derived.OwnWalkIn
import Derived.RangeFuncBound
import Derived.RangeFuncBox
import Derived.RangeFuncCalls
import Derived.RangeFuncLeaves
import Derived.RangeFuncNested
import Derived.Shelf.Abstract
import Derived.Shelf.RegionOpen
import Derived.TacticsInMore
section
namespace Go.Proofs.Ytgnaaaliadiekaa.B
open Go.RowKit Go.Proofs.YtgnaaaliadiekaaW.PrintWords Go.Proofs.YtgnaaaliadiekaaW.PrintLast Go.Proofs.YtgnaaaliadiekaaW.PrintMore
attribute [local go_sem] ycj ych ycs ycr ybw ybv yci ycg   -- for this text's walks alone
attribute [local go_sem] yca ybn ybz ybm
set_option linter.unusedVariables false
set_option linter.unusedSimpArgs false
def yds.f (k : Nat) (l0 : List Int) (l1 : List Int) : Option (List Int × Int) := (ydj.f k l0 l1).bind fun bt1001 => (if bt1001.2.2 = true then (some (bt1001.2.1, 0)) else (some (([] : List Int), 4)))
set_option maxHeartbeats 8000000 in
set_option maxRecDepth 100000 in
theorem yds.calls (k : Nat) (A0 : Option Addr) (c0 : Nat) (l0 : List Int) (A1 : Option Addr) (c1 : Nat) (l1 : List Int) (r1 : List Int) (r2 : Int) (w : World) (hr0 : Kd.C (Kd.int .u64) w A0 l0.length l0) (hc0 : l0.length ≤ c0) (hr1 : Kd.C (Kd.int .u64) w A1 l1.length l1) (hc1 : l1.length ≤ c1) (h : yds.f k l0 l1 = some (r1, r2)) :
 Calls Try.prog 88 #[.slice A0 l0.length c0, .slice A1 l1.length c1] w fun e w' => ∃ v0_ : Value, e = .returned (.tuple #[v0_, .int .i64 r2]) ∧ Kd.R (Kd.int .u64) 61 w' w.heap.size (fun _ => True) v0_ r1 ∧ Below w.heap.size w w' := by
 have HR0 := Aside0.mk hr0
 have HC0 := Aside0.mk hc0
 clear hr0 hc0
 have HR1 := Aside0.mk hr1
 have HC1 := Aside0.mk hc1
 clear hr1 hc1
 have HB := Aside0.mk (Below.refl w.heap.size w)
 have H : ((ydj.f k l0 l1).bind fun bt1001 => (if bt1001.2.2 = true then (some (bt1001.2.1, 0)) else (some (([] : List Int), 4)))) = some (r1, r2) := h
 clear h
 replace H := Option.bind_eq_some_iff.mp H
 obtain ⟨⟨t1001, t1002, t1003⟩, A30, H⟩ := H
 replace H : (if t1003 = true then (some (t1002, 0)) else (some (([] : List Int), 4))) = some (r1, r2) := H
 have A3 := Aside0.mk A30
 clear A30
 by_cases c4 : t1003 = true
 · subst c4
   have H1 : (some (t1002, 0)) = some (r1, r2) := by rw [if_pos rfl] at H; exact H
   clear H
   have H := H1
   clear H1
   simp only [Option.some.injEq, Prod.mk.injEq] at H
   obtain ⟨rfl, rfl⟩ := H
   go_enter Try.func88, Try.ntmps88
   go_wp2_with (first | ((with_reducible refine yar (f := 38) rfl ?_); refine yce (some 12) rfl rfl Try.func38 (by kernel_rfl) rfl #[.slice A0 l0.length c0, .slice A1 l1.length c1] rfl Z6_ ?_; (with_reducible refine (ydj.calls k _ _ l0 _ _ l1 t1001 t1002 true _ ?side1 ?side2 ?side3 ?side4 A3.out).mono ?_); (case side1 => repeat (first | exact HR0.out | (with_reducible refine Kd.yau ?_ _) | (with_reducible refine Kd.yaw ?_ _) | (with_reducible refine Kd.ybe ?_))); (case side2 => exact HC0.out); (case side3 => repeat (first | exact HR1.out | (with_reducible refine Kd.yau ?_ _) | (with_reducible refine Kd.yaw ?_ _) | (with_reducible refine Kd.ybe ?_))); (case side4 => exact HC1.out); rintro e w5 ⟨v1004, v1006, rfl, ho0, ho1, hb⟩; refine ⟨_, rfl, ?_⟩; have n0_ := Aside0.mk (Kd.ybl ho0 (yaj Z7_)); have n1_ := Aside0.mk (Kd.ybl ho1 (yaj Z7_)); have n2_ := Aside0.mk (yai Z7_ hb); clear HB; have HO1005 := n0_; have HO1007 := n1_; have HB := n2_; clear n0_ n1_ n2_; (try clear hb); (try clear hb2); (try clear hk); (try clear hi); (try clear ho0); (try clear ho1)))
   go_ret2
   exact ⟨_, by first | rfl | (simp [yap, yao] <;> rfl) | (simp [*, yap, yao] <;> rfl), by (with_reducible repeat (first | apply Kd.yba | apply Kd.yaz | apply Kd.ybi)); exact Kd.ycn HO1007.out (fun _ hk => trivial), by repeat (first | (with_reducible first | exact HB.out | apply yad | apply yab | apply yac) | exact HB.out)⟩
 · replace c4 := Bool.eq_false_iff.mpr c4
   subst c4
   have H1 : (some (([] : List Int), 4)) = some (r1, r2) := by rw [if_neg (show ¬ (false = true) by decide)] at H; exact H
   clear H
   have H := H1
   clear H1
   simp only [Option.some.injEq, Prod.mk.injEq] at H
   obtain ⟨rfl, rfl⟩ := H
   go_enter Try.func88, Try.ntmps88
   go_wp2_with (first | ((with_reducible refine yar (f := 38) rfl ?_); refine yce (some 12) rfl rfl Try.func38 (by kernel_rfl) rfl #[.slice A0 l0.length c0, .slice A1 l1.length c1] rfl Z6_ ?_; (with_reducible refine (ydj.calls k _ _ l0 _ _ l1 t1001 t1002 false _ ?side1 ?side2 ?side3 ?side4 A3.out).mono ?_); (case side1 => repeat (first | exact HR0.out | (with_reducible refine Kd.yau ?_ _) | (with_reducible refine Kd.yaw ?_ _) | (with_reducible refine Kd.ybe ?_))); (case side2 => exact HC0.out); (case side3 => repeat (first | exact HR1.out | (with_reducible refine Kd.yau ?_ _) | (with_reducible refine Kd.yaw ?_ _) | (with_reducible refine Kd.ybe ?_))); (case side4 => exact HC1.out); rintro e w6 ⟨v1004, v1006, rfl, ho0, ho1, hb⟩; refine ⟨_, rfl, ?_⟩; have n0_ := Aside0.mk (Kd.ybl ho0 (yaj Z7_)); have n1_ := Aside0.mk (Kd.ybl ho1 (yaj Z7_)); have n2_ := Aside0.mk (yai Z7_ hb); clear HB; have HO1005 := n0_; have HO1007 := n1_; have HB := n2_; clear n0_ n1_ n2_; (try clear hb); (try clear hb2); (try clear hk); (try clear hi); (try clear ho0); (try clear ho1)))
   go_ret2
   exact ⟨_, by first | rfl | (simp [yap, yao] <;> rfl) | (simp [*, yap, yao] <;> rfl), by first | exact Kd.yfv _ _ _ _ _ | exact Kd.yid _ _ _ _ _ | exact Kd.yia _ _ _ _ _ | exact Kd.yic _ _ _ _ _ | exact Kd.yib _ _ _ _ _, by repeat (first | (with_reducible first | exact HB.out | apply yad | apply yab | apply yac) | exact HB.out)⟩
end Go.Proofs.Ytgnaaaliadiekaa.B
end
section
namespace Go.Proofs.Ytgnaaaliadiekaa.B
open Go.RowKit Go.Proofs.YtgnaaaliadiekaaW.PrintWords Go.Proofs.YtgnaaaliadiekaaW.PrintLast Go.Proofs.YtgnaaaliadiekaaW.PrintMore
attribute [local go_sem] ycj ych ycs ycr ybw ybv yci ycg   -- for this text's walks alone
attribute [local go_sem] yca ybn ybz ybm
set_option linter.unusedVariables false
set_option linter.unusedSimpArgs false
def ydw.f (k : Nat) (l0 : List Int) (l1 : List Int) (l2 : List Int) : Option (List Int × Int) := (yda.f k l0 l1).bind fun t1001 => ((yds.f k t1001 l2).bind fun bt1004 => (some (bt1004.1, bt1004.2)))
set_option maxHeartbeats 8000000 in
set_option maxRecDepth 100000 in
theorem ydw.calls (k : Nat) (A0 : Option Addr) (c0 : Nat) (l0 : List Int) (A1 : Option Addr) (c1 : Nat) (l1 : List Int) (A2 : Option Addr) (c2 : Nat) (l2 : List Int) (r1 : List Int) (r2 : Int) (w : World) (hr0 : Kd.C (Kd.int .u64) w A0 l0.length l0) (hc0 : l0.length ≤ c0) (hr1 : Kd.C (Kd.int .u64) w A1 l1.length l1) (hc1 : l1.length ≤ c1) (hr2 : Kd.C (Kd.int .u64) w A2 l2.length l2) (hc2 : l2.length ≤ c2) (h : ydw.f k l0 l1 l2 = some (r1, r2)) :
 Calls Try.prog 89 #[.slice A0 l0.length c0, .slice A1 l1.length c1, .slice A2 l2.length c2] w fun e w' => ∃ v0_ : Value, e = .returned (.tuple #[v0_, .int .i64 r2]) ∧ Kd.R (Kd.int .u64) 61 w' w.heap.size (fun _ => True) v0_ r1 ∧ Below w.heap.size w w' := by
 have HR0 := Aside0.mk hr0
 have HC0 := Aside0.mk hc0
 clear hr0 hc0
 have HR1 := Aside0.mk hr1
 have HC1 := Aside0.mk hc1
 clear hr1 hc1
 have HR2 := Aside0.mk hr2
 have HC2 := Aside0.mk hc2
 clear hr2 hc2
 have HB := Aside0.mk (Below.refl w.heap.size w)
 have H : ((yda.f k l0 l1).bind fun t1001 => ((yds.f k t1001 l2).bind fun bt1004 => (some (bt1004.1, bt1004.2)))) = some (r1, r2) := h
 clear h
 replace H := Option.bind_eq_some_iff.mp H
 obtain ⟨t1001, A40, H⟩ := H
 replace H : ((yds.f k t1001 l2).bind fun bt1004 => (some (bt1004.1, bt1004.2))) = some (r1, r2) := H
 have A4 := Aside0.mk A40
 clear A40
 replace H := Option.bind_eq_some_iff.mp H
 obtain ⟨⟨t1004, t1005⟩, A50, H⟩ := H
 replace H : (some (t1004, t1005)) = some (r1, r2) := H
 have A5 := Aside0.mk A50
 clear A50
 simp only [Option.some.injEq, Prod.mk.injEq] at H
 obtain ⟨rfl, rfl⟩ := H
 go_enter Try.func89, Try.ntmps89
 go_wp2_with (first | ((with_reducible refine yar (f := 99) rfl ?_); refine yce (some 10) rfl rfl Try.func99 (by kernel_rfl) rfl #[.slice A0 l0.length c0, .slice A1 l1.length c1] rfl Z6_ ?_; (with_reducible refine (yda.calls k _ _ l0 _ _ l1 t1001 _ ?side1 ?side2 ?side3 ?side4 A4.out).mono ?_); (case side1 => repeat (first | exact HR0.out | (with_reducible refine Kd.yau ?_ _) | (with_reducible refine Kd.yaw ?_ _) | (with_reducible refine Kd.ybe ?_))); (case side2 => exact HC0.out); (case side3 => repeat (first | exact HR1.out | (with_reducible refine Kd.yau ?_ _) | (with_reducible refine Kd.yaw ?_ _) | (with_reducible refine Kd.ybe ?_))); (case side4 => exact HC1.out); rintro e w6 ⟨v1002, rfl, ho0, hb⟩; refine ⟨_, rfl, ?_⟩; have n0_ := Aside0.mk (Kd.ybl ho0 (yaj Z7_)); have n1_ := Aside0.mk (yai Z7_ hb); clear HB; have HO1003 := n0_; have HB := n1_; clear n0_ n1_; (try clear hb); (try clear hb2); (try clear hk); (try clear hi); (try clear ho0); obtain ⟨Ao7, co7, eo7⟩ := Kd.ybc HO1003.out; subst eo7) | ((with_reducible refine yar (f := 88) rfl ?_); refine yce (some 12) rfl rfl Try.func88 (by kernel_rfl) rfl #[.slice Ao7 t1001.length co7, .slice A2 l2.length c2] rfl Z6_ ?_; (with_reducible refine (yds.calls k _ _ t1001 _ _ l2 t1004 t1005 _ ?side1 ?side2 ?side3 ?side4 A5.out).mono ?_); (case side1 => repeat (first | exact (Kd.R_reads' HO1003.out).2.2 | (with_reducible refine Kd.yau ?_ _) | (with_reducible refine Kd.yaw ?_ _) | (with_reducible refine Kd.ybe ?_))); (case side2 => exact (Kd.R_reads' HO1003.out).2.1); (case side3 => repeat (first | exact (Kd.ybg HR2.out HB.out) | (with_reducible refine Kd.yau ?_ _) | (with_reducible refine Kd.yaw ?_ _) | (with_reducible refine Kd.ybe ?_))); (case side4 => exact HC2.out); rintro e w8 ⟨v1006, rfl, ho0, hb⟩; refine ⟨_, rfl, ?_⟩; have n0_ := Aside0.mk (Kd.R_elder' Z9_ (Kd.ycf ho0) hb); have n1_ := Aside0.mk (Kd.ybl (Kd.R_new' ho0 (Kd.R_lt Z9_)) (yaj Z7_)); have n2_ := Aside0.mk (yai Z7_ hb); clear HO1003; clear HB; have HO1003 := n0_; have HO1007 := n1_; have HB := n2_; clear n0_ n1_ n2_; (try clear hb); (try clear hb2); (try clear hk); (try clear hi); (try clear ho0)))
 go_ret2
 exact ⟨_, by first | rfl | (simp [yap, yao] <;> rfl) | (simp [*, yap, yao] <;> rfl), by (with_reducible repeat (first | apply Kd.yba | apply Kd.yaz | apply Kd.ybi)); exact Kd.ycn HO1007.out (fun _ hk => trivial), by repeat (first | (with_reducible first | exact HB.out | apply yad | apply yab | apply yac) | exact HB.out)⟩
end Go.Proofs.Ytgnaaaliadiekaa.B
end
section
namespace Go.Proofs.Ytgnaaaliadiekaa.B
open Go.RowKit Go.Proofs.YtgnaaaliadiekaaW.PrintWords Go.Proofs.YtgnaaaliadiekaaW.PrintLast Go.Proofs.YtgnaaaliadiekaaW.PrintMore
open Go.Shelf
set_option linter.unusedVariables false
set_option linter.unusedSimpArgs false
attribute [local go_sem] Oper.semAt_some
def upto {α : Type} (f : Nat → α) (k : Nat) : List α := (List.range k).map f
theorem upto_succ {α : Type} (f : Nat → α) (k : Nat) : upto f (k + 1) = upto f k ++ [f k] := by simp [upto, List.range_succ]
theorem upto_length {α : Type} (f : Nat → α) (k : Nat) : (upto f k).length = k := by simp [upto]
def bitOf (zs : List Int) (i : Nat) : Bool := Go.bits .and .u64 (rd zs ((i : Int) / 64) / 2 ^ (i % 64)) 1 == 1
def bitsOf (zs : List Int) (L : Nat) (k : Nat) : Int × Bool := ((L : Int) - 1 - k, bitOf zs (L - 1 - k))
def KB (n₀ Bs : Nat) (W W' : World) : Prop := Below n₀ W W' ∧ W'.heap[Bs]? = W.heap[Bs]?
theorem KB.trans {n₀ Bs : Nat} {A B C : World} (h : KB n₀ Bs A B) (k : KB n₀ Bs B C) : KB n₀ Bs A C := ⟨h.1.trans k.1, k.2.trans h.2⟩
theorem KB.put {n₀ Bs : Nat} {w : World} (hn : n₀ ≤ w.heap.size) (hB : Bs < w.heap.size) (W : World) (l : Nat) (o o' : Obj) (hl : w.heap.size ≤ l) (h : W.heap[l]? = some o) (hc : o.isCells = false) (hw : o.isWalk = false) : KB n₀ Bs W (W.putObj l o') :=
 ⟨belowK_b hn W l o o' hl h hc hw, World.putObj_heap_other (fun e => by omega)⟩
set_option maxRecDepth 100000 in
set_option maxHeartbeats 2000000 in
theorem Bits1_in (n : Nat) (hn : 1 ≤ n) (l Bs n₀ B0 : Nat) (A : Option Addr) (cap : Nat) (zs : List Int) (L k0 : Nat) (hlen : zs.length < 1099511627776) (hL : ydm.f k0 zs = some (L : Int)) (hLz : L ≤ 64 * zs.length) (J Jx : List (Int × Bool) → World → Prop) (hJ : AbidesFrom B0 J)
 (hY : ∀ pre x W, J pre W → pre.length < L → YieldAt Fence.wide (n - 1) Try.prog l #[.int .i64 x.1, .bool x.2] W fun e W' =>
  (e = .returned (.bool true) ∧ J (pre ++ [x]) W' ∧ KB n₀ Bs W W') ∨ (e = .returned (.bool false) ∧ Jx (pre ++ [x]) W'))
 (W : World) (hBs : W.cell? ⟨Bs, 0, none⟩ = some (.slice A zs.length cap)) (hcap : zs.length ≤ cap) (hC : ∀ W', KB n₀ Bs W W' → Kd.C (Kd.int .u64) W' A zs.length zs) (h0 : J [] W) :
 CallsIn Fence.wide n Try.prog 44 #[.func (.yield l) #[] #[], .pointer (some ⟨Bs, 0, none⟩)] W fun e W' => (∃ v, e = .returned v) ∧
  ((∃ ys, ys = upto (bitsOf zs L) L ∧ J ys W') ∨ (∃ pre, (∃ k, k ≤ L ∧ pre = upto (bitsOf zs L) k) ∧ Jx pre W')) := by
 refine callsIn_of_wp Try.func44 rfl trivial ?_ rfl
 simp only [Try.ntmps44, List.size_toArray, List.length_cons, List.length_nil, Nat.reduceAdd, Nat.reduceSub, Array.replicate_succ, Array.replicate_zero, List.push_toArray, List.append_toArray, List.nil_append, List.cons_append]
 gi_wp2_with (refine ⟨trivial, ?_⟩; gi_at_call 41; refine (callsIn_wide.2 (ydm.calls k0 _ _ zs L _ (hC _ ⟨Below.refl _ _, rfl⟩) hcap hL)).mono ?_; rintro e w' ⟨rfl, ⟨q, rfl⟩⟩)
 have hJ1 : J [] (W.drewN q) := hJ _ _ _ none h0 (by exact ⟨rfl, rfl, rfl, Nat.le_refl _, fun _ _ _ => rfl⟩) (fun r e => by cases e)
 gi_loopw [3] (fun i wr => ∃ k : Nat, k ≤ L ∧ i = .int .i64 ((L : Int) - 1 - k) ∧ J (upto (bitsOf zs L) k) wr ∧ KB n₀ Bs W wr)
  (fun i _ => (intOf i + 1).toNat)
 case atStart => exact ⟨0, Nat.zero_le _, by go_num, hJ1, ⟨yab (Below.refl _ _) _, rfl⟩⟩
 case round =>
  obtain ⟨k, hk, rfl, hJs, hnx⟩ := hrel
  have hbx := (World.cell?_of_block (w := W) (a := ⟨Bs, 0, none⟩) hnx.2).trans hBs
  by_cases hlt : k < L
  · obtain ⟨fn, tmps, assign, body, hy, hR⟩ := hY _ (bitsOf zs L k) wr hJs (by rw [upto_length]; exact hlt)
    simp only [bitsOf, bitOf] at hy
    have hq : Int.tdiv ((L : Int) - 1 - k) 64 = (((L - 1 - k) / 64 : Nat) : Int) := by rw [show (L : Int) - 1 - k = ((L - 1 - k : Nat) : Int) by omega]; rfl
    obtain ⟨ad, e1, hx⟩ := Kd.ybs (hC wr hnx) (((L - 1 - k) / 64 : Nat) : Int) (by omega) (by omega)
    subst e1
    rw [Int.toNat_natCast] at hx
    gi_wp2
    refine hR.mono ?_
    rintro e W3 (⟨rfl, hJ3, hk3⟩ | ⟨rfl, hJx3⟩)
    · gi_wp2
      go_roundw
      case rel => exact ⟨k + 1, by omega, by go_num, by rw [upto_succ]; exact hJ3, hnx.trans hk3⟩
      case measure => simp [intOf]; omega
    · gi_wp2
      refine bodyPost_ret (results_none rfl _ _ _) rfl ?_
      exact ⟨⟨_, rfl⟩, .inr ⟨_, ⟨k + 1, by omega, (upto_succ _ _).symm⟩, hJx3⟩⟩
  · obtain rfl : k = L := by omega
    gi_wp2
    go_end0
    exact ⟨⟨_, rfl⟩, .inl ⟨_, rfl, hJs⟩⟩
set_option maxHeartbeats 1000000 in
theorem Bits_in (A0 : Option Addr) (len c0 : Nat) (w : World) :
 Calls Try.prog 13 #[.slice A0 len c0] w fun e w' => e = .returned (.func (.func 44) #[] #[.pointer (some ⟨w.heap.size, 0, none⟩)]) ∧ w' = w.alloc (.cells #[.slice A0 len c0] 23) := by
 go_enter Try.func13, Try.ntmps13
 go_wp2
 go_ret
 exact ⟨rfl, rfl⟩
theorem Bits_stops (n : Nat) (hn : 1 ≤ n) (Bs n₀ : Nat) (A : Option Addr) (cap : Nat) (zs : List Int) (L k0 : Nat) (hlen : zs.length < 1099511627776) (hL : ydm.f k0 zs = some (L : Int)) (hLz : L ≤ 64 * zs.length)
 (w : World) (hn₀ : n₀ ≤ w.heap.size) (hb : Bs < w.heap.size) (hBs : w.cell? ⟨Bs, 0, none⟩ = some (.slice A zs.length cap)) (hcap : zs.length ≤ cap) (hC : ∀ W', KB n₀ Bs w W' → Kd.C (Kd.int .u64) W' A zs.length zs) :
 SeqStopsK Fence.wide n Try.prog 44 #[.pointer (some ⟨Bs, 0, none⟩)] (fun x : Int × Bool => #[Value.int .i64 x.1, .bool x.2]) (KB n₀ Bs) (fun ys => ys = upto (bitsOf zs L) L) (fun pre => ∃ k, k ≤ L ∧ pre = upto (bitsOf zs L) k) L w := fun l J Jx W hW hJ _ hY h0 => by
 have h1 : KB n₀ Bs w W := ⟨hW.mono hn₀, hW.block Bs hb⟩
 exact Bits1_in n hn l Bs n₀ W.heap.size A cap zs L k0 hlen hL hLz J Jx hJ hY W ((hW.cell (p := ⟨Bs, 0, none⟩) hb).trans hBs) hcap (fun W' h => hC W' (h1.trans h)) h0
theorem yhw {w w1 : World} {base : Nat} {v : Value} {X : List Int} {row : Option Nat} (ho : Kd.R (Kd.int .u64) 61 w base (fun _ => True) v X) (hg : w.grownBy w1 row) (hr : ∀ r, row = some r → ∃ o : Obj, w.heap[r]? = some o ∧ o.isCells = false) : Kd.R (Kd.int .u64) 61 w1 base (fun _ => True) v X := by
 refine Kd.ycn (Kd.R_grown (Kd.yfh rfl ho) hg (fun k hk => ?_)) (fun _ _ => trivial)
 intro he
 obtain ⟨o, h1, h2⟩ := hr k he.symm
 obtain ⟨_, _, _, q, _, cells, h3⟩ := (Kd.ygu ho).1 k hk.symm
 rw [h3] at h1
 injection h1 with h1
 subst h1
 cases h2
def noPanic (Q : Exit → Act → World → Prop) : Exit → Act → World → Prop
 | .panic _, _, _ => False
 | .normal, a, w => Q .normal a w
 | .ret, a, w => Q .ret a w
 | .exit i, a, w => Q (.exit i) a w
 | .goto t, a, w => Q (.goto t) a w
 | .outgrown, a, w => Q .outgrown a w
theorem of_noPanic {Q : Exit → Act → World → Prop} : ∀ e a w, noPanic Q e a w → Q e a w := by
 intro e a w h
 cases e with
 | panic c => exact h.elim
 | _ => exact h
theorem yhd {W W' : World} (h : Below W.heap.size W W') : KeepsOthers W W' := ⟨h.size, fun b o hb _ => (h.block b (Array.getElem?_eq_some_iff.1 hb).1).trans hb⟩
theorem yei {n₀ : Nat} {W W' : World} {B : Nat} {t : TypeId} {v : Value} (h : Boxed W B t v) (hb : Below n₀ W W') (hB : B < n₀) : Boxed W' B t v := (hb.block B hB).trans h
theorem own_set {W : World} {base B : Nat} {v u u0 : Value} {X : List Int} (hb : Boxed W B 23 u0) (ho : Kd.R (Kd.int .u64) 61 W base (fun _ => True) v X) : Kd.R (Kd.int .u64) 61 (W.setCell ⟨B, 0, none⟩ u) base (fun _ => True) v X := by
 refine Kd.ycn (Kd.R_grown (Kd.yfh rfl ho) (grownBy_setCell' W B u) (fun k hk he => ?_)) (fun _ _ => trivial)
 obtain ⟨_, _, _, q, hq, cells, h3⟩ := (Kd.ygu ho).1 k hk.symm
 injection he with he
 subst he
 have h4 : W.heap[k]? = some (.cells #[u0] 23 (0, 0)) := hb
 rw [h3] at h4
 have hq2 : q = 61 := by
  rcases List.mem_cons.1 hq with h | h
  · exact h
  · exact absurd h (show ¬ q ∈ ([] : List TypeId) from List.not_mem_nil)
 subst hq2
 injection h4 with h4
 injection h4 with _ h4
 exact absurd h4 (by decide)
end Go.Proofs.Ytgnaaaliadiekaa.B
end
