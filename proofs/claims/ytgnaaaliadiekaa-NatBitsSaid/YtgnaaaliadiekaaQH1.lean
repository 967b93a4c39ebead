/- Walks over the bits of a number: the iterator's word; small words for what a loop over an iterator keeps. -/
import Derived.Test.YtgnaaaliadiekaaBx0
import Derived.Test.YtgnaaaliadiekaaBx2
import Derived.Test.YtgnaaaliadiekaaQH0
import Derived.RangeFuncNested
import Derived.RangeFuncBound
import Derived.RangeFuncCalls
import Derived.RangeFuncLeaves
import Derived.RangeFuncBox
import Derived.Shelf.Abstract
import Derived.Shelf.RegionOpen
import Derived.OwnWalkIn
import Derived.TacticsInMore
import Derived.LoopNIn
import Derived.LoopIn
import Derived.Deep.RegionWith
namespace Go.Proofs.Ytgnaaaliadiekaa.B
open Go.RowKit Go.Proofs.YtgnaaaliadiekaaW.PrintWords Go.Proofs.YtgnaaaliadiekaaW.PrintLast Go.Proofs.YtgnaaaliadiekaaW.PrintMore
open Go.Shelf
set_option linter.unusedVariables false
set_option linter.unusedSimpArgs false
attribute [local go_sem] Oper.semAt_some
/-- what has come when k rounds are over -/
def upto {α : Type} (f : Nat → α) (k : Nat) : List α := (List.range k).map f
theorem upto_succ {α : Type} (f : Nat → α) (k : Nat) : upto f (k + 1) = upto f k ++ [f k] := by simp [upto, List.range_succ]
theorem upto_length {α : Type} (f : Nat → α) (k : Nat) : (upto f k).length = k := by simp [upto]
/-- a bit, as the code reads it -/
def bitOf (zs : List Int) (i : Nat) : Bool := Go.bits .and .u64 (rd zs ((i : Int) / 64) / 2 ^ (i % 64)) 1 == 1
def bitsOf (zs : List Int) (L : Nat) (k : Nat) : Int × Bool := ((L : Int) - 1 - k, bitOf zs (L - 1 - k))
/-- What a round keeps: what lay below, and one block. -/
def KB (n₀ Bs : Nat) (W W' : World) : Prop := Below n₀ W W' ∧ W'.heap[Bs]? = W.heap[Bs]?
theorem KB.trans {n₀ Bs : Nat} {A B C : World} (h : KB n₀ Bs A B) (k : KB n₀ Bs B C) : KB n₀ Bs A C := ⟨h.1.trans k.1, k.2.trans h.2⟩
theorem KB.put {n₀ Bs : Nat} {w : World} (hn : n₀ ≤ w.heap.size) (hB : Bs < w.heap.size) (W : World) (l : Nat) (o o' : Obj) (hl : w.heap.size ≤ l) (h : W.heap[l]? = some o) (hc : o.isCells = false) (hw : o.isWalk = false) : KB n₀ Bs W (W.putObj l o') :=
  ⟨belowK_b hn W l o o' hl h hc hw, World.putObj_heap_other (fun e => by omega)⟩
set_option maxRecDepth 100000 in
set_option maxHeartbeats 2000000 in
theorem Bits1_in (n : Nat) (hn : 1 ≤ n) (l Bs n₀ B0 : Nat) (A : Option Addr) (cap : Nat) (zs : List Int) (L k0 : Nat) (hlen : zs.length < 1099511627776) (hL : nat_Len.f k0 zs = some (L : Int)) (hLz : L ≤ 64 * zs.length) (J Jx : List (Int × Bool) → World → Prop) (hJ : AbidesFrom B0 J)
    (hY : ∀ pre x W, J pre W → pre.length < L → YieldAt Fence.wide (n - 1) Try.prog l #[.int .i64 x.1, .bool x.2] W fun e W' =>
      (e = .returned (.bool true) ∧ J (pre ++ [x]) W' ∧ KB n₀ Bs W W') ∨ (e = .returned (.bool false) ∧ Jx (pre ++ [x]) W'))
    (W : World) (hBs : W.cell? ⟨Bs, 0, none⟩ = some (.slice A zs.length cap)) (hcap : zs.length ≤ cap) (hC : ∀ W', KB n₀ Bs W W' → Kd.C (Kd.int .u64) W' A zs.length zs) (h0 : J [] W) :
    CallsIn Fence.wide n Try.prog 44 #[.func (.yield l) #[] #[], .pointer (some ⟨Bs, 0, none⟩)] W fun e W' => (∃ v, e = .returned v) ∧
      ((∃ ys, ys = upto (bitsOf zs L) L ∧ J ys W') ∨ (∃ pre, (∃ k, k ≤ L ∧ pre = upto (bitsOf zs L) k) ∧ Jx pre W')) := by
  refine callsIn_of_wp Try.func44 rfl trivial ?_ rfl
  simp only [Try.ntmps44, List.size_toArray, List.length_cons, List.length_nil, Nat.reduceAdd, Nat.reduceSub, Array.replicate_succ, Array.replicate_zero, List.push_toArray, List.append_toArray, List.nil_append, List.cons_append]
  gi_wp2_with (refine ⟨trivial, ?_⟩; gi_at_call 41; refine (callsIn_wide.2 (nat_Len.calls k0 _ _ zs L _ (hC _ ⟨Below.refl _ _, rfl⟩) hcap hL)).mono ?_; rintro e w' ⟨rfl, ⟨q, rfl⟩⟩)
  have hJ1 : J [] (W.drewN q) := hJ _ _ _ none h0 (by exact ⟨rfl, rfl, rfl, Nat.le_refl _, fun _ _ _ => rfl⟩) (fun r e => by cases e)
  gi_loopw [3] (fun i wr => ∃ k : Nat, k ≤ L ∧ i = .int .i64 ((L : Int) - 1 - k) ∧ J (upto (bitsOf zs L) k) wr ∧ KB n₀ Bs W wr)
    (fun i _ => (intOf i + 1).toNat)
  case atStart => exact ⟨0, Nat.zero_le _, by go_num, hJ1, ⟨pw_below_drewN (Below.refl _ _) _, rfl⟩⟩
  case round =>
    obtain ⟨k, hk, rfl, hJs, hnx⟩ := hrel
    have hbx := (World.cell?_of_block (w := W) (a := ⟨Bs, 0, none⟩) hnx.2).trans hBs
    by_cases hlt : k < L
    · obtain ⟨fn, tmps, assign, body, hy, hR⟩ := hY _ (bitsOf zs L k) wr hJs (by rw [upto_length]; exact hlt)
      simp only [bitsOf, bitOf] at hy
      have hq : Int.tdiv ((L : Int) - 1 - k) 64 = (((L - 1 - k) / 64 : Nat) : Int) := by rw [show (L : Int) - 1 - k = ((L - 1 - k : Nat) : Int) by omega]; rfl
      obtain ⟨ad, e1, hx⟩ := Kd.at_int (hC wr hnx) (((L - 1 - k) / 64 : Nat) : Int) (by omega) (by omega)
      subst e1
      rw [Int.toNat_natCast] at hx
      gi_wp2
      refine hR.mono ?_
      rintro e W3 (⟨rfl, hJ3, hk3⟩ | ⟨rfl, hJx3⟩)
      · gi_wp2
        go_roundw
        case rel => exact ⟨k + 1, by omega, by go_num, by rw [upto_succ]; exact hJ3, hnx.trans hk3⟩
        case measure => simp [intOf]; omega
      · gi_wp2
        refine bodyPost_ret (results_none rfl _ _ _) rfl ?_
        exact ⟨⟨_, rfl⟩, .inr ⟨_, ⟨k + 1, by omega, (upto_succ _ _).symm⟩, hJx3⟩⟩
    · obtain rfl : k = L := by omega
      gi_wp2
      go_end0
      exact ⟨⟨_, rfl⟩, .inl ⟨_, rfl, hJs⟩⟩

set_option maxHeartbeats 1000000 in
/-- nat.Bits: the slice is boxed; the function value captures the box. -/
theorem Bits_in (A0 : Option Addr) (len c0 : Nat) (w : World) :
    Calls Try.prog 13 #[.slice A0 len c0] w fun e w' => e = .returned (.func (.func 44) #[] #[.pointer (some ⟨w.heap.size, 0, none⟩)]) ∧ w' = w.alloc (.cells #[.slice A0 len c0] 23) := by
  go_enter Try.func13, Try.ntmps13
  go_wp2
  go_ret
  exact ⟨rfl, rfl⟩
/-- The iterator's word. -/
theorem Bits_stops (n : Nat) (hn : 1 ≤ n) (Bs n₀ : Nat) (A : Option Addr) (cap : Nat) (zs : List Int) (L k0 : Nat) (hlen : zs.length < 1099511627776) (hL : nat_Len.f k0 zs = some (L : Int)) (hLz : L ≤ 64 * zs.length)
    (w : World) (hn₀ : n₀ ≤ w.heap.size) (hb : Bs < w.heap.size) (hBs : w.cell? ⟨Bs, 0, none⟩ = some (.slice A zs.length cap)) (hcap : zs.length ≤ cap) (hC : ∀ W', KB n₀ Bs w W' → Kd.C (Kd.int .u64) W' A zs.length zs) :
    SeqStopsK Fence.wide n Try.prog 44 #[.pointer (some ⟨Bs, 0, none⟩)] (fun x : Int × Bool => #[Value.int .i64 x.1, .bool x.2]) (KB n₀ Bs) (fun ys => ys = upto (bitsOf zs L) L) (fun pre => ∃ k, k ≤ L ∧ pre = upto (bitsOf zs L) k) L w := fun l J Jx W hW hJ _ hY h0 => by
  have h1 : KB n₀ Bs w W := ⟨hW.mono hn₀, hW.block Bs hb⟩
  exact Bits1_in n hn l Bs n₀ W.heap.size A cap zs L k0 hlen hL hLz J Jx hJ hY W ((hW.cell (p := ⟨Bs, 0, none⟩) hb).trans hBs) hcap (fun W' h => hC W' (h1.trans h)) h0
/-- A row of a call's own stays, whatever turns that is no cells. -/
theorem own_abides {w w1 : World} {base : Nat} {v : Value} {X : List Int} {row : Option Nat} (ho : Kd.R (Kd.int .u64) 61 w base (fun _ => True) v X) (hg : w.grownBy w1 row) (hr : ∀ r, row = some r → ∃ o : Obj, w.heap[r]? = some o ∧ o.isCells = false) : Kd.R (Kd.int .u64) 61 w1 base (fun _ => True) v X := by
  refine Kd.R_mono (Kd.R_grown (Kd.R_tight rfl ho) hg (fun k hk => ?_)) (fun _ _ => trivial)
  intro he
  obtain ⟨o, h1, h2⟩ := hr k he.symm
  obtain ⟨_, _, _, q, _, cells, h3⟩ := (Kd.R_bound ho).1 k hk.symm
  rw [h3] at h1
  injection h1 with h1
  subst h1
  cases h2
def noPanic (Q : Exit → Act → World → Prop) : Exit → Act → World → Prop
  | .panic _, _, _ => False
  | .normal, a, w => Q .normal a w
  | .ret, a, w => Q .ret a w
  | .exit i, a, w => Q (.exit i) a w
  | .goto t, a, w => Q (.goto t) a w
  | .outgrown, a, w => Q .outgrown a w
theorem of_noPanic {Q : Exit → Act → World → Prop} : ∀ e a w, noPanic Q e a w → Q e a w := by
  intro e a w h
  cases e with
  | panic c => exact h.elim
  | _ => exact h
theorem keeps_below {W W' : World} (h : Below W.heap.size W W') : KeepsOthers W W' := ⟨h.size, fun b o hb _ => (h.block b (Array.getElem?_eq_some_iff.1 hb).1).trans hb⟩
theorem box_below {n₀ : Nat} {W W' : World} {B : Nat} {t : TypeId} {v : Value} (h : Boxed W B t v) (hb : Below n₀ W W') (hB : B < n₀) : Boxed W' B t v := (hb.block B hB).trans h
/-- A row of a call's own stays, where a box is written. -/
theorem own_set {W : World} {base B : Nat} {v u u0 : Value} {X : List Int} (hb : Boxed W B 23 u0) (ho : Kd.R (Kd.int .u64) 61 W base (fun _ => True) v X) : Kd.R (Kd.int .u64) 61 (W.setCell ⟨B, 0, none⟩ u) base (fun _ => True) v X := by
  refine Kd.R_mono (Kd.R_grown (Kd.R_tight rfl ho) (grownBy_setCell' W B u) (fun k hk he => ?_)) (fun _ _ => trivial)
  obtain ⟨_, _, _, q, hq, cells, h3⟩ := (Kd.R_bound ho).1 k hk.symm
  injection he with he
  subst he
  have h4 : W.heap[k]? = some (.cells #[u0] 23 (0, 0)) := hb
  rw [h3] at h4
  have hq2 : q = 61 := by
    rcases List.mem_cons.1 hq with h | h
    · exact h
    · exact absurd h (show ¬ q ∈ ([] : List TypeId) from List.not_mem_nil)
  subst hq2
  injection h4 with h4
  injection h4 with _ h4
  exact absurd h4 (by decide)
end Go.Proofs.Ytgnaaaliadiekaa.B
