/- Written by xp.py, a program of this session, over the print of the kit: what it says is checked by its build. -/
import Derived.Test.YtanjbjenohdodaaBx0
import Derived.Test.YtanjbjenohdodaaBx1
import Derived.Test.YtanjbjenohdodaaBx6
import Derived.RangeFuncNested
import Derived.RangeFuncBound
import Derived.RangeFuncCalls
import Derived.RangeFuncLeaves
import Derived.RangeFuncBox
import Derived.Shelf.Abstract
import Derived.Shelf.RegionOpen
import Derived.OwnWalkIn
import Derived.TacticsInMore
import Derived.LoopNIn
import Derived.LoopIn
import Derived.Deep.RegionWith
namespace Go.Proofs.Ytanjbjenohdodaa.B
open Go.RowKit Go.Proofs.YtanjbjenohdodaaW.PrintWords Go.Proofs.YtanjbjenohdodaaW.PrintLast Go.Proofs.YtanjbjenohdodaaW.PrintMore
attribute [local go_sem] max2_int min2_int max_two min_two max_three min_three max_four min_four   -- for this text's walks alone
attribute [local go_sem] run_Add64 run_Add64_0 run_Sub64 run_Sub64_0
set_option linter.unusedVariables false
set_option linter.unusedSimpArgs false

open Go.Shelf
attribute [local go_sem] Oper.semAt_some
/-- what has come when k rounds are over -/
def upto {α : Type} (f : Nat → α) (k : Nat) : List α := (List.range k).map f
theorem upto_succ {α : Type} (f : Nat → α) (k : Nat) : upto f (k + 1) = upto f k ++ [f k] := by simp [upto, List.range_succ]
theorem upto_length {α : Type} (f : Nat → α) (k : Nat) : (upto f k).length = k := by simp [upto]
/-- a bit, as the code reads it -/
def bitOf (zs : List Int) (i : Nat) : Bool := Go.bits .and .u64 (rd zs ((i : Int) / 64) / 2 ^ (i % 64)) 1 == 1
def bitsOf (zs : List Int) (L : Nat) (k : Nat) : Int × Bool := ((L : Int) - 1 - k, bitOf zs (L - 1 - k))
/-- What a round keeps: what lay below, and one block. -/
def KB (n₀ Bs : Nat) (W W' : World) : Prop := Below n₀ W W' ∧ W'.heap[Bs]? = W.heap[Bs]?
theorem KB.trans {n₀ Bs : Nat} {A B C : World} (h : KB n₀ Bs A B) (k : KB n₀ Bs B C) : KB n₀ Bs A C := ⟨h.1.trans k.1, k.2.trans h.2⟩
theorem KB.put {n₀ Bs : Nat} {w : World} (hn : n₀ ≤ w.heap.size) (hB : Bs < w.heap.size) (W : World) (l : Nat) (o o' : Obj) (hl : w.heap.size ≤ l) (h : W.heap[l]? = some o) (hc : o.isCells = false) (hw : o.isWalk = false) : KB n₀ Bs W (W.putObj l o') :=
  ⟨belowK_b hn W l o o' hl h hc hw, World.putObj_heap_other (fun e => by omega)⟩
set_option maxRecDepth 100000 in
set_option maxHeartbeats 2000000 in
theorem Bits1_in (n : Nat) (hn : 1 ≤ n) (l Bs n₀ B0 : Nat) (A : Option Addr) (cap : Nat) (zs : List Int) (L k0 : Nat) (hlen : zs.length < 1099511627776) (hL : nat_Len.f k0 zs = some (L : Int)) (hLz : L ≤ 64 * zs.length) (J Jx : List (Int × Bool) → World → Prop) (hJ : AbidesFrom B0 J)
    (hY : ∀ pre x W, J pre W → pre.length < L → YieldAt Fence.wide (n - 1) Try.prog l #[.int .i64 x.1, .bool x.2] W fun e W' =>
      (e = .returned (.bool true) ∧ J (pre ++ [x]) W' ∧ KB n₀ Bs W W') ∨ (e = .returned (.bool false) ∧ Jx (pre ++ [x]) W'))
    (W : World) (hBs : W.cell? ⟨Bs, 0, none⟩ = some (.slice A zs.length cap)) (hcap : zs.length ≤ cap) (hC : ∀ W', KB n₀ Bs W W' → Kd.C (Kd.int .u64) W' A zs.length zs) (h0 : J [] W) :
    CallsIn Fence.wide n Try.prog 60 #[.func (.yield l) #[] #[], .pointer (some ⟨Bs, 0, none⟩)] W fun e W' => (∃ v, e = .returned v) ∧
      ((∃ ys, ys = upto (bitsOf zs L) L ∧ J ys W') ∨ (∃ pre, (∃ k, k ≤ L ∧ pre = upto (bitsOf zs L) k) ∧ Jx pre W')) := by
  refine callsIn_of_wp Try.func60 rfl trivial ?_ rfl
  simp only [Try.ntmps60, List.size_toArray, List.length_cons, List.length_nil, Nat.reduceAdd, Nat.reduceSub, Array.replicate_succ, Array.replicate_zero, List.push_toArray, List.append_toArray, List.nil_append, List.cons_append]
  gi_wp2_with (refine ⟨trivial, ?_⟩; gi_at_call 30; refine (callsIn_wide.2 (nat_Len.calls k0 _ _ zs L _ (hC _ ⟨Below.refl _ _, rfl⟩) hcap hL)).mono ?_; rintro e w' ⟨rfl, ⟨q, rfl⟩⟩)
  have hJ1 : J [] (W.drewN q) := hJ _ _ _ none h0 (by exact ⟨rfl, rfl, rfl, Nat.le_refl _, fun _ _ _ => rfl⟩) (fun r e => by cases e)
  gi_loopw [3] (fun i wr => ∃ k : Nat, k ≤ L ∧ i = .int .i64 ((L : Int) - 1 - k) ∧ J (upto (bitsOf zs L) k) wr ∧ KB n₀ Bs W wr)
    (fun i _ => (intOf i + 1).toNat)
  case atStart => exact ⟨0, Nat.zero_le _, by go_num, hJ1, ⟨pw_below_drewN (Below.refl _ _) _, rfl⟩⟩
  case round =>
    obtain ⟨k, hk, rfl, hJs, hnx⟩ := hrel
    have hbx := (World.cell?_of_block (w := W) (a := ⟨Bs, 0, none⟩) hnx.2).trans hBs
    by_cases hlt : k < L
    · obtain ⟨fn, tmps, assign, body, hy, hR⟩ := hY _ (bitsOf zs L k) wr hJs (by rw [upto_length]; exact hlt)
      simp only [bitsOf, bitOf] at hy
      have hq : Int.tdiv ((L : Int) - 1 - k) 64 = (((L - 1 - k) / 64 : Nat) : Int) := by rw [show (L : Int) - 1 - k = ((L - 1 - k : Nat) : Int) by omega]; rfl
      obtain ⟨ad, e1, hx⟩ := Kd.at_int (hC wr hnx) (((L - 1 - k) / 64 : Nat) : Int) (by omega) (by omega)
      subst e1
      rw [Int.toNat_natCast] at hx
      gi_wp2
      refine hR.mono ?_
      rintro e W3 (⟨rfl, hJ3, hk3⟩ | ⟨rfl, hJx3⟩)
      · gi_wp2
        go_roundw
        case rel => exact ⟨k + 1, by omega, by go_num, by rw [upto_succ]; exact hJ3, hnx.trans hk3⟩
        case measure => simp [intOf]; omega
      · gi_wp2
        refine bodyPost_ret (results_none rfl _ _ _) rfl ?_
        exact ⟨⟨_, rfl⟩, .inr ⟨_, ⟨k + 1, by omega, (upto_succ _ _).symm⟩, hJx3⟩⟩
    · obtain rfl : k = L := by omega
      gi_wp2
      go_end0
      exact ⟨⟨_, rfl⟩, .inl ⟨_, rfl, hJs⟩⟩

set_option maxHeartbeats 1000000 in
/-- nat.Bits: the slice is boxed; the function value captures the box. -/
theorem Bits_in (A0 : Option Addr) (len c0 : Nat) (w : World) :
    Calls Try.prog 49 #[.slice A0 len c0] w fun e w' => e = .returned (.func (.func 60) #[] #[.pointer (some ⟨w.heap.size, 0, none⟩)]) ∧ w' = w.alloc (.cells #[.slice A0 len c0] 23) := by
  go_enter Try.func49, Try.ntmps49
  go_wp2
  go_ret
  exact ⟨rfl, rfl⟩
/-- The iterator's word. -/
theorem Bits_stops (n : Nat) (hn : 1 ≤ n) (Bs n₀ : Nat) (A : Option Addr) (cap : Nat) (zs : List Int) (L k0 : Nat) (hlen : zs.length < 1099511627776) (hL : nat_Len.f k0 zs = some (L : Int)) (hLz : L ≤ 64 * zs.length)
    (w : World) (hn₀ : n₀ ≤ w.heap.size) (hb : Bs < w.heap.size) (hBs : w.cell? ⟨Bs, 0, none⟩ = some (.slice A zs.length cap)) (hcap : zs.length ≤ cap) (hC : ∀ W', KB n₀ Bs w W' → Kd.C (Kd.int .u64) W' A zs.length zs) :
    SeqStopsK Fence.wide n Try.prog 60 #[.pointer (some ⟨Bs, 0, none⟩)] (fun x : Int × Bool => #[Value.int .i64 x.1, .bool x.2]) (KB n₀ Bs) (fun ys => ys = upto (bitsOf zs L) L) (fun pre => ∃ k, k ≤ L ∧ pre = upto (bitsOf zs L) k) L w := fun l J Jx W hW hJ _ hY h0 => by
  have h1 : KB n₀ Bs w W := ⟨hW.mono hn₀, hW.block Bs hb⟩
  exact Bits1_in n hn l Bs n₀ W.heap.size A cap zs L k0 hlen hL hLz J Jx hJ hY W ((hW.cell (p := ⟨Bs, 0, none⟩) hb).trans hBs) hcap (fun W' h => hC W' (h1.trans h)) h0
/-- One round: squared, and multiplied, if the bit is set. -/
def modular_Pow.step (k : Nat) (a m o : List Int) (b : Bool) : Option (List Int) :=
  (modular_Mul.f k o o m).bind fun t => if b = true then (modular_Mul.f k t.1 a m).bind fun t2 => some t2.1 else some t.1
def modular_Pow.fold (k : Nat) (a m : List Int) : List (Int × Bool) → List Int → Option (List Int)
  | [], o => some o
  | x :: xs, o => (modular_Pow.step k a m o x.2).bind fun o' => modular_Pow.fold k a m xs o'
def modular_Pow.both (f : List Int → Bool) : Option (List Int) → Option (List Int) → Bool
  | some o1, some o2 => f o1 && f o2
  | _, _ => false
theorem modular_Pow.both_some {f : List Int → Bool} {x y : Option (List Int)} (h : modular_Pow.both f x y = true) : ∃ o1 o2, x = some o1 ∧ y = some o2 ∧ f o1 = true ∧ f o2 = true := by
  cases x with
  | none => cases h
  | some o1 =>
    cases y with
    | none => cases h
    | some o2 => exact ⟨o1, o2, rfl, rfl, (Bool.and_eq_true_iff.1 h).1, (Bool.and_eq_true_iff.1 h).2⟩
theorem modular_Pow.both_of {f : List Int → Bool} {x y : Option (List Int)} {o1 o2 : List Int} (h1 : x = some o1) (h2 : y = some o2) (g1 : f o1 = true) (g2 : f o2 = true) : modular_Pow.both f x y = true := by
  subst h1 h2
  exact Bool.and_eq_true_iff.2 ⟨g1, g2⟩
/-- So many rounds never fail, whatever the bits. -/
def modular_Pow.ok (k : Nat) (a m : List Int) : Nat → List Int → Bool
  | 0, _ => true
  | d + 1, o => modular_Pow.both (modular_Pow.ok k a m d) (modular_Pow.step k a m o false) (modular_Pow.step k a m o true)
theorem modular_Pow.ok_step {k : Nat} {a m o : List Int} {d : Nat} (h : modular_Pow.ok k a m (d + 1) o = true) (b : Bool) : ∃ o', modular_Pow.step k a m o b = some o' ∧ modular_Pow.ok k a m d o' = true := by
  obtain ⟨o1, o2, e1, e2, g1, g2⟩ := modular_Pow.both_some h
  cases b with
  | false => exact ⟨o1, e1, g1⟩
  | true => exact ⟨o2, e2, g2⟩
theorem modular_Pow.ok_of {k : Nat} {a m : List Int} (G : List Int → Prop) (hc : ∀ o b, G o → ∃ o', modular_Pow.step k a m o b = some o' ∧ G o') : ∀ d o, G o → modular_Pow.ok k a m d o = true
  | 0, _, _ => rfl
  | d + 1, o, h => by
    obtain ⟨o1, e1, g1⟩ := hc o false h
    obtain ⟨o2, e2, g2⟩ := hc o true h
    exact modular_Pow.both_of e1 e2 (modular_Pow.ok_of G hc d o1 g1) (modular_Pow.ok_of G hc d o2 g2)
def modular_Pow.rounds (k : Nat) (a m o zs : List Int) (L : Int) : Option (List Int) :=
  if zs.length < 1099511627776 ∧ 0 ≤ L ∧ L ≤ 64 * zs.length ∧ modular_Pow.ok k a m L.toNat o = true then modular_Pow.fold k a m (upto (bitsOf zs L.toNat) L.toNat) o else none
def modular_Pow.f (k : Nat) (l0 l1 l2 : List Int) : Option (List Int × Int) :=
  (modular_Of.f k l0 l2).bind fun t => if t.2 = 0 then (nat_Of.f k 1).bind fun t1 => (modular_Of.f k t1 l2).bind fun t2 => (nat_Len.f k l1).bind fun L => (modular_Pow.rounds k t.1 l2 t2.1 l1 L).bind fun r => some (r, 0) else some ([], t.2)
theorem modular_Pow.step_mono (k : Nat) (a m o : List Int) (b : Bool) : LeO (modular_Pow.step k a m o b) (modular_Pow.step (k + 1) a m o b) := by
  unfold modular_Pow.step
  exact LeO.bind (modular_Mul.mono _ _ _ k) (fun t => LeO.ite (LeO.bind (modular_Mul.mono _ _ _ k) (fun _ => LeO.refl _)) (LeO.refl _))
theorem modular_Pow.fold_mono (k : Nat) (a m : List Int) : ∀ (xs : List (Int × Bool)) (o : List Int), LeO (modular_Pow.fold k a m xs o) (modular_Pow.fold (k + 1) a m xs o)
  | [], _ => LeO.refl _
  | _ :: xs, _ => LeO.bind (modular_Pow.step_mono _ _ _ _ _) (fun _ => modular_Pow.fold_mono k a m xs _)
theorem modular_Pow.ok_mono (k : Nat) (a m : List Int) : ∀ (d : Nat) (o : List Int), modular_Pow.ok k a m d o = true → modular_Pow.ok (k + 1) a m d o = true
  | 0, _, _ => rfl
  | d + 1, o, h => by
    obtain ⟨o1, e1, g1⟩ := modular_Pow.ok_step h false
    obtain ⟨o2, e2, g2⟩ := modular_Pow.ok_step h true
    exact modular_Pow.both_of (modular_Pow.step_mono k a m o false _ e1) (modular_Pow.step_mono k a m o true _ e2) (modular_Pow.ok_mono k a m d o1 g1) (modular_Pow.ok_mono k a m d o2 g2)
theorem modular_Pow.rounds_mono (k : Nat) (a m o zs : List Int) (L : Int) : LeO (modular_Pow.rounds k a m o zs L) (modular_Pow.rounds (k + 1) a m o zs L) := by
  intro r h
  unfold modular_Pow.rounds at h ⊢
  split at h
  · rename_i hg
    rw [if_pos ⟨hg.1, hg.2.1, hg.2.2.1, modular_Pow.ok_mono k a m _ _ hg.2.2.2⟩]
    exact modular_Pow.fold_mono k a m _ _ _ h
  · cases h
theorem modular_Pow.mono : ∀ a0 a1 a2 k, LeO (modular_Pow.f k a0 a1 a2) (modular_Pow.f (k + 1) a0 a1 a2) := by
  intro a0 a1 a2 k
  unfold modular_Pow.f
  exact LeO.bind (modular_Of.mono _ _ k) (fun t => LeO.ite (LeO.bind (nat_Of.mono _ k) (fun t1 => LeO.bind (modular_Of.mono _ _ k) (fun t2 => LeO.bind (nat_Len.mono _ k) (fun L => LeO.bind (modular_Pow.rounds_mono _ _ _ _ _ _) (fun r => LeO.refl _))))) (LeO.refl _))
theorem modular_Pow.fold_snoc (k : Nat) (a m : List Int) : ∀ (xs : List (Int × Bool)) (x : Int × Bool) (o o1 o2 : List Int), modular_Pow.fold k a m xs o = some o1 → modular_Pow.step k a m o1 x.2 = some o2 → modular_Pow.fold k a m (xs ++ [x]) o = some o2
  | [], x, o, o1, o2, h1, h2 => by
    injection h1 with h1
    subst h1
    show (modular_Pow.step k a m o x.2).bind _ = _
    rw [h2]
    rfl
  | y :: xs, x, o, o1, o2, h1, h2 => by
    obtain ⟨o', e, h1⟩ := Option.bind_eq_some_iff.mp h1
    show (modular_Pow.step k a m o y.2).bind _ = _
    rw [e]
    exact modular_Pow.fold_snoc k a m xs x o' o1 o2 h1 h2
/-- A row of a call's own stays, whatever turns that is no cells. -/
theorem own_abides {w w1 : World} {base : Nat} {v : Value} {X : List Int} {row : Option Nat} (ho : Kd.R (Kd.int .u64) 44 w base (fun _ => True) v X) (hg : w.grownBy w1 row) (hr : ∀ r, row = some r → ∃ o : Obj, w.heap[r]? = some o ∧ o.isCells = false) : Kd.R (Kd.int .u64) 44 w1 base (fun _ => True) v X := by
  refine Kd.R_mono (Kd.R_grown (Kd.R_tight rfl ho) hg (fun k hk => ?_)) (fun _ _ => trivial)
  intro he
  obtain ⟨o, h1, h2⟩ := hr k he.symm
  obtain ⟨_, _, _, q, _, cells, h3⟩ := (Kd.R_bound ho).1 k hk.symm
  rw [h3] at h1
  injection h1 with h1
  subst h1
  cases h2
def noPanic (Q : Exit → Act → World → Prop) : Exit → Act → World → Prop
  | .panic _, _, _ => False
  | .normal, a, w => Q .normal a w
  | .ret, a, w => Q .ret a w
  | .exit i, a, w => Q (.exit i) a w
  | .goto t, a, w => Q (.goto t) a w
  | .outgrown, a, w => Q .outgrown a w
theorem of_noPanic {Q : Exit → Act → World → Prop} : ∀ e a w, noPanic Q e a w → Q e a w := by
  intro e a w h
  cases e with
  | panic c => exact h.elim
  | _ => exact h
theorem keeps_below {W W' : World} (h : Below W.heap.size W W') : KeepsOthers W W' := ⟨h.size, fun b o hb _ => (h.block b (Array.getElem?_eq_some_iff.1 hb).1).trans hb⟩
theorem box_below {n₀ : Nat} {W W' : World} {B : Nat} {t : TypeId} {v : Value} (h : Boxed W B t v) (hb : Below n₀ W W') (hB : B < n₀) : Boxed W' B t v := (hb.block B hB).trans h
/-- A row of a call's own stays, where a box is written. -/
theorem own_set {W : World} {base B : Nat} {v u u0 : Value} {X : List Int} (hb : Boxed W B 23 u0) (ho : Kd.R (Kd.int .u64) 44 W base (fun _ => True) v X) : Kd.R (Kd.int .u64) 44 (W.setCell ⟨B, 0, none⟩ u) base (fun _ => True) v X := by
  refine Kd.R_mono (Kd.R_grown (Kd.R_tight rfl ho) (grownBy_setCell' W B u) (fun k hk he => ?_)) (fun _ _ => trivial)
  obtain ⟨_, _, _, q, hq, cells, h3⟩ := (Kd.R_bound ho).1 k hk.symm
  injection he with he
  subst he
  have h4 : W.heap[k]? = some (.cells #[u0] 23 (0, 0)) := hb
  rw [h3] at h4
  have hq2 : q = 44 := by
    rcases List.mem_cons.1 hq with h | h
    · exact h
    · exact absurd h (show ¬ q ∈ ([] : List TypeId) from List.not_mem_nil)
  subst hq2
  injection h4 with h4
  injection h4 with _ h4
  exact absurd h4 (by decide)
/-- What stands in memory between two rounds: the boxes and the two rows. -/
def PowSt (w : World) (b9 : Nat) (Aa : Option Addr) (ca : Nat) (ta : List Int) (A2 : Option Addr) (c2 : Nat) (l2 : List Int) (W : World) (o : List Int) : Prop :=
  ∃ Ar cr, Boxed W b9 23 (.slice Ar o.length cr) ∧ Kd.R (Kd.int .u64) 44 W w.heap.size (fun _ => True) (.slice Ar o.length cr) o ∧ Boxed W w.heap.size 23 (.slice Aa ta.length ca) ∧
    Kd.R (Kd.int .u64) 44 W w.heap.size (fun _ => True) (.slice Aa ta.length ca) ta ∧ Boxed W (w.heap.size + 1) 23 (.slice A2 l2.length c2) ∧ Below w.heap.size w W ∧ w.heap.size + 2 ≤ b9
theorem PowSt.put {w wr : World} {b9 : Nat} {Aa A2 Ar : Option Addr} {ca c2 cr : Nat} {ta l2 o : List Int} {u : Value} (k9 : Boxed wr b9 23 u) (k3 : Boxed wr w.heap.size 23 (.slice Aa ta.length ca)) (k5 : Boxed wr (w.heap.size + 1) 23 (.slice A2 l2.length c2))
    (kB : Below w.heap.size w wr) (ra : Kd.R (Kd.int .u64) 44 wr w.heap.size (fun _ => True) (.slice Aa ta.length ca) ta) (ro : Kd.R (Kd.int .u64) 44 wr w.heap.size (fun _ => True) (.slice Ar o.length cr) o) (hb : w.heap.size + 2 ≤ b9) :
    PowSt w b9 Aa ca ta A2 c2 l2 (wr.setCell ⟨b9, 0, none⟩ (.slice Ar o.length cr)) o :=
  ⟨Ar, cr, k9.set _, own_set k9 ro, k3.other (by omega) _, own_set k9 ra, k5.other (by omega) _, kB.setCell (by show w.heap.size ≤ b9; omega) _, hb⟩
theorem PowSt.own {w : World} {b9 : Nat} {Aa A2 : Option Addr} {ca c2 : Nat} {ta l2 o : List Int} {B : Nat} (hB : w.heap.size ≤ B) {W W' : World} {row : Option Nat} (h : PowSt w b9 Aa ca ta A2 c2 l2 W o) (hg : W.grownBy W' row) (hr : ∀ r, row = some r → B ≤ r ∧ ∃ o : Obj, W.heap[r]? = some o ∧ o.isCells = false) : PowSt w b9 Aa ca ta A2 c2 l2 W' o := by
  obtain ⟨Ar, cr, h1, h2, h3, h4, h5, h6, h7⟩ := h
  have box : ∀ {b : Nat} {t : TypeId} {v : Value}, Boxed W b t v → Boxed W' b t v := by
    intro b t v hb
    refine hb.kept hg (fun e => ?_)
    obtain ⟨_, o, e1, e2⟩ := hr b e.symm
    have e3 : W.heap[b]? = some (.cells #[v] t (0, 0)) := hb
    rw [e3] at e1
    injection e1 with e1
    subst e1
    cases e2
  exact ⟨Ar, cr, box h1, own_abides h2 hg (fun r e => (hr r e).2), box h3, own_abides h4 hg (fun r e => (hr r e).2), box h5, h6.grown hg h6.size (fun k e => Nat.le_trans hB (hr k e).1), h7⟩
set_option maxRecDepth 100000 in
set_option maxHeartbeats 4000000 in
theorem modular_Pow.tail_wp (ca0 ca1 ca2 ca3 ca4 : Code) (hcode : Try.f20.body = some (.seq ca0 (.seq ca1 (.seq ca2 (.seq ca3 ca4))))) (k : Nat) (w Wf : World) (A1 A2 Aa : Option Addr) (c1 c2 ca b9 Ln : Nat) (l1 l2 ta t2 rr : List Int) (u0 u10 u13 u14 u15 u16 u17 u18 u19 u20 u22 u23 u24 u25 u26 u27 : Value)
    (hc1 : l1.length ≤ c1) (hc2 : l2.length ≤ c2) (HR1 : Aside0 (Kd.C (Kd.int .u64) w A1 l1.length l1)) (HR2 : Aside0 (Kd.C (Kd.int .u64) w A2 l2.length l2)) (hlen : l1.length < 1099511627776) (HL : Aside0 (nat_Len.f k l1 = some (Ln : Int))) (hLz : (Ln : Int) ≤ 64 * l1.length)
    (HOK : Aside0 (modular_Pow.ok k ta l2 Ln t2 = true)) (HRR : Aside0 (modular_Pow.fold k ta l2 (upto (bitsOf l1 Ln) Ln) t2 = some rr)) (hSt : PowSt w b9 Aa ca ta A2 c2 l2 Wf t2) :
    ca4.wp Try.prog (noPanic (bodyPostM Fence.wide 10 Try.prog Try.f20 fun e w' => ∃ v0_ : Value, e = .returned (.tuple #[v0_, .int .i64 0]) ∧ Kd.R (Kd.int .u64) 44 w' w.heap.size (fun _ => True) v0_ rr ∧ Below w.heap.size w w'))
      { tmps := #[u0, .slice A1 l1.length c1, .slice A2 l2.length c2, .pointer (some ⟨w.heap.size, 0, none⟩), undef, .pointer (some ⟨w.heap.size + 1, 0, none⟩), .slice none 0 0, .int .i64 0, .int .i64 0, .pointer (some ⟨b9, 0, none⟩), u10, undef, undef, u13, u14, u15, u16, u17, u18, u19, u20, undef, u22, u23, u24, u25, u26, u27, undef, undef, undef, undef, undef, undef, undef, undef, undef, undef, undef, undef, undef, undef, undef, undef, undef, undef, undef, undef], defers := [] } Wf := by
  have hBf : Below w.heap.size w Wf := by obtain ⟨_, _, _, _, _, _, _, h, _⟩ := hSt; exact h
  have hsf := hBf.size
  have hb9 : b9 < Wf.heap.size := by obtain ⟨_, _, h, _⟩ := hSt; exact h.lt
  dsimp only [Try.f20] at hcode
  injection hcode with hcode
  injection hcode with hx hcode
  clear hx
  injection hcode with hx hcode
  clear hx
  injection hcode with hx hcode
  clear hx
  injection hcode with hx hcode
  clear hx
  subst hcode
  go_wp2_with (go_at_call 49; refine (Bits_in A1 l1.length c1 _).mono ?_; rintro e wb ⟨rfl, rfl⟩)
  have hbox := (Boxed.new Wf 23 (.slice A1 l1.length c1)).cell
  refine (wpIn_wide (n := 10)).1 ?_
  refine wpIn_rangeFunc_ownF rfl (by decide) (gf := 60) (lb := #[.pointer (some ⟨Wf.heap.size, 0, none⟩)]) rfl trivial (enters_of Try.func60 (by kernel_rfl) rfl)
    (Bits_stops 9 (by decide) Wf.heap.size w.heap.size A1 c1 l1 Ln k hlen HL.out (by omega) (Wf.alloc (.cells #[.slice A1 l1.length c1] 23)) (by simp; omega) (by simp) hbox hc1 (fun W' h => Kd.C_below HR1.out ((hBf.alloc hsf _).trans h.1)))
    KB.trans (KB.put (by simp; omega) (by simp)) (Below.refl _ _) (fun _ => rfl)
    (fun pre W => (∃ o, modular_Pow.fold k ta l2 pre t2 = some o ∧ modular_Pow.ok k ta l2 (Ln - pre.length) o = true ∧ PowSt w b9 Aa ca ta A2 c2 l2 W o) ∧ Wf.heap.size + 1 ≤ W.heap.size)
    (fun _ _ _ => False)
    (fun s A B row hs hg hr => ⟨by obtain ⟨o, h1, h2, h3⟩ := hs.1; exact ⟨o, h1, h2, h3.own (by simp; omega) hg hr⟩, Nat.le_trans hs.2 hg.size⟩)
    (fun _ _ _ _ _ hs _ _ => hs)
    ⟨⟨t2, rfl, HOK.out, hSt.own (B := w.heap.size) (Nat.le_refl _) (World.grownBy_alloc Wf _ none) (fun r e => by cases e)⟩, by simp⟩
    (fun x => { tmps := #[u0, .slice A1 l1.length c1, .slice A2 l2.length c2, .pointer (some ⟨w.heap.size, 0, none⟩), undef, .pointer (some ⟨w.heap.size + 1, 0, none⟩), .slice none 0 0, .int .i64 0, .int .i64 0, .pointer (some ⟨b9, 0, none⟩), u10, undef, .bool x.2, u13, u14, u15, u16, u17, u18, u19, u20, undef, u22, u23, u24, u25, u26, u27, .slice A1 l1.length c1, .func (.func 60) #[] #[.pointer (some ⟨Wf.heap.size, 0, none⟩)], .int .i64 x.1, .bool x.2, undef, undef, undef, undef, undef, undef, undef, undef, undef, undef, undef, undef, undef, undef, undef, undef], defers := [] })
    ?assign ?body ?done ?stop
  case assign =>
    intro l x W K hK
    gi_wp2
    exact hK
  case body =>
    rintro l pre x W ⟨⟨o, hf, hok, Ar, cr, hB9, hRo, hB3, hRa, hB5, hBW, hb9'⟩, hsW⟩ hlt
    obtain ⟨d, hd⟩ : ∃ d, Ln - pre.length = d + 1 := ⟨Ln - pre.length - 1, by omega⟩
    rw [hd] at hok
    obtain ⟨o', hs, hok'⟩ := modular_Pow.ok_step hok x.2
    have hfold := modular_Pow.fold_snoc k ta l2 pre x t2 o o' hf hs
    have hlen' : Ln - (pre ++ [x]).length = d := by simp; omega
    obtain ⟨xi, xb⟩ := x
    unfold modular_Pow.step at hs
    obtain ⟨⟨m1, em⟩, hm1, hs⟩ := Option.bind_eq_some_iff.mp hs
    have HM1 := Aside0.mk hm1
    clear hm1
    have hc9 := hB9.cell
    have hf9 := hB9.frozen
    have hc5 := hB5.cell
    have hc3 := hB3.cell
    have hlt9 := hB9.lt
    have hlt5 := hB5.lt
    have hlt3 := hB3.lt
    have hsz := hBW.size
    cases xb with
    | false =>
      injection hs with hs
      subst hs
      gi_wp2_with (refine ⟨trivial, ?_⟩; gi_at_call 34; refine (CallsIn.inRound l (callsIn_wide.2 (modular_Mul.calls k _ _ o _ _ o _ _ l2 m1 em W (Kd.R_reads' hRo).2.2 (Kd.R_reads' hRo).2.1 (Kd.R_reads' hRo).2.2 (Kd.R_reads' hRo).2.1 (Kd.C_below HR2.out hBW) hc2 HM1.out))).mono ?_; rintro e wr ⟨vr, rfl, hor, hbr⟩; obtain ⟨Am, cm, rfl⟩ := Kd.R_slice hor; have g9 := box_below hB9 hbr hlt9; have gc9 := g9.cell; have gf9 := g9.frozen)
      exact ⟨(keeps_below hbr).trans (KeepsOthers.setCell _ _ _), ⟨(hbr.mono hsz).setCell (by show w.heap.size ≤ b9; omega) _, (Below.heap_setCell _ _ _ _ (by show Wf.heap.size ≠ b9; omega)).trans (hbr.block _ (by omega))⟩, ⟨m1, hfold, by rw [hlen']; exact hok', PowSt.put g9 (box_below hB3 hbr hlt3) (box_below hB5 hbr hlt5) (hBW.trans (hbr.mono hsz)) (Kd.R_below hRa hbr) (Kd.R_lower hor hsz) hb9'⟩, by have := hbr.size; simp; omega⟩
    | true =>
      obtain ⟨⟨m2, em2⟩, hm2, hs⟩ := Option.bind_eq_some_iff.mp (show (modular_Mul.f k m1 ta l2).bind (fun t2 => some t2.1) = some o' from hs)
      injection hs with hs
      subst hs
      have HM2 := Aside0.mk hm2
      clear hm2
      gi_wp2_with (first
        | (refine ⟨trivial, ?_⟩; gi_at_call 34; refine (CallsIn.inRound l (callsIn_wide.2 (modular_Mul.calls k _ _ o _ _ o _ _ l2 m1 em W (Kd.R_reads' hRo).2.2 (Kd.R_reads' hRo).2.1 (Kd.R_reads' hRo).2.2 (Kd.R_reads' hRo).2.1 (Kd.C_below HR2.out hBW) hc2 HM1.out))).mono ?_; clear HM1; rintro e wr ⟨vr, rfl, hor, hbr⟩; obtain ⟨Am, cm, rfl⟩ := Kd.R_slice hor; have g9 := box_below hB9 hbr hlt9; have gc9 := g9.cell; have gf9 := g9.frozen;
            have s9 := g9.set (.slice Am m1.length cm); have s3 := (box_below hB3 hbr hlt3).other (B' := b9) (by omega) (.slice Am m1.length cm); have s5 := (box_below hB5 hbr hlt5).other (B' := b9) (by omega) (.slice Am m1.length cm); have sB : Below w.heap.size w (wr.setCell ⟨b9, 0, none⟩ (.slice Am m1.length cm)) := (hBW.trans (hbr.mono hsz)).setCell (by show w.heap.size ≤ b9; omega) _; have sO : Kd.R (Kd.int .u64) 44 (wr.setCell ⟨b9, 0, none⟩ (.slice Am m1.length cm)) w.heap.size (fun _ => True) (.slice Am m1.length cm) m1 := own_set g9 (Kd.R_lower hor hsz); have sA : Kd.R (Kd.int .u64) 44 (wr.setCell ⟨b9, 0, none⟩ (.slice Am m1.length cm)) w.heap.size (fun _ => True) (.slice Aa ta.length ca) ta := own_set g9 (Kd.R_below hRa hbr);
            have sc9 := s9.cell; have sc3 := s3.cell; have sc5 := s5.cell)
        | (refine ⟨trivial, ?_⟩; gi_at_call 34; refine (CallsIn.inRound l (callsIn_wide.2 (modular_Mul.calls k _ _ m1 _ _ ta _ _ l2 m2 em2 (wr.setCell ⟨b9, 0, none⟩ (.slice Am m1.length cm)) (Kd.R_reads' sO).2.2 (Kd.R_reads' sO).2.1 (Kd.R_reads' sA).2.2 (Kd.R_reads' sA).2.1 (Kd.C_below HR2.out sB) hc2 HM2.out))).mono ?_; clear HM2; rintro e wt ⟨vt, rfl, hot, hbt⟩; obtain ⟨At, ct, rfl⟩ := Kd.R_slice hot; have h9 := box_below s9 hbt s9.lt; have hhc9 := h9.cell; have hhf9 := h9.frozen))
      have hszr := hbr.size
      have hszt : wr.heap.size ≤ wt.heap.size := by have := hbt.size; simpa using this
      have hst1 : w.heap.size ≤ (wr.setCell ⟨b9, 0, none⟩ (.slice Am m1.length cm)).heap.size := by simp; omega
      have hbW : Below w.heap.size W wt := ((hbr.mono hsz).setCell (p := ⟨b9, 0, none⟩) (by show w.heap.size ≤ b9; omega) (.slice Am m1.length cm)).trans (hbt.mono hst1)
      have hkW : KeepsOthers W wt := ((keeps_below hbr).trans (KeepsOthers.setCell _ _ _)).trans (keeps_below hbt)
      have hbb : wt.heap[Wf.heap.size]? = W.heap[Wf.heap.size]? := (hbt.block _ (by simp; omega)).trans ((Below.heap_setCell _ _ _ _ (by show Wf.heap.size ≠ b9; omega)).trans (hbr.block _ (by omega)))
      exact ⟨hkW.trans (KeepsOthers.setCell _ _ _), ⟨hbW.setCell (by show w.heap.size ≤ b9; omega) _, (Below.heap_setCell _ _ _ _ (by show Wf.heap.size ≠ b9; omega)).trans hbb⟩, ⟨m2, hfold, by rw [hlen']; exact hok', PowSt.put h9 (box_below s3 hbt s3.lt) (box_below s5 hbt s5.lt) (sB.trans (hbt.mono hst1)) (Kd.R_below sA hbt) (Kd.R_lower hot hst1) hb9'⟩, by simp; omega⟩
  case done =>
    rintro D xs W hD rfl ⟨⟨o, hf, hok, Ar, cr, hB9, hRo, hB3, hRa, hB5, hBW, hb9'⟩, hsW⟩ hK
    rw [HRR.out] at hf
    injection hf with hf
    subst hf
    have hc9 := hB9.cell
    have hD2 : w.heap.size ≤ D := by simp at hD; omega
    go_wp2
    show LeavesInM Fence.wide 10 Try.prog Try.f20 _ _ _ _ _
    refine ⟨by simp, .inl ⟨_, _, rfl, run_takeDeferred hK, ?_⟩⟩
    have hg := grownBy_putObj' W D (.deferred none)
    refine ⟨_, results_tmp2 rfl _ _ _, _, rfl, own_abides hRo hg (fun r e => by cases e; exact ⟨_, hK, rfl⟩), hBW.grown hg hBW.size (fun k e => by cases e; exact hD2)⟩
  case stop =>
    rintro D c pre W _ _ h _
    exact h.elim
set_option maxRecDepth 100000 in
set_option maxHeartbeats 4000000 in
theorem modular_Pow.calls (k : Nat) (A0 : Option Addr) (c0 : Nat) (l0 : List Int) (A1 : Option Addr) (c1 : Nat) (l1 : List Int) (A2 : Option Addr) (c2 : Nat) (l2 : List Int) (r1 : List Int) (r2 : Int) (w : World) (hr0 : Kd.C (Kd.int .u64) w A0 l0.length l0) (hc0 : l0.length ≤ c0) (hr1 : Kd.C (Kd.int .u64) w A1 l1.length l1) (hc1 : l1.length ≤ c1) (hr2 : Kd.C (Kd.int .u64) w A2 l2.length l2) (hc2 : l2.length ≤ c2) (h : modular_Pow.f k l0 l1 l2 = some (r1, r2)) :
    Calls Try.prog 20 #[.slice A0 l0.length c0, .slice A1 l1.length c1, .slice A2 l2.length c2] w fun e w' => ∃ v0_ : Value, e = .returned (.tuple #[v0_, .int .i64 r2]) ∧ Kd.R (Kd.int .u64) 44 w' w.heap.size (fun _ => True) v0_ r1 ∧ Below w.heap.size w w' := by
  have HR0 := Aside0.mk hr0
  have HR1 := Aside0.mk hr1
  have HR2 := Aside0.mk hr2
  clear hr0 hr1 hr2
  obtain ⟨⟨ta, te⟩, ha, h⟩ := Option.bind_eq_some_iff.mp h
  have HA := Aside0.mk ha
  clear ha
  by_cases hte : te = 0
  · subst hte
    rw [if_pos rfl] at h
    obtain ⟨t1, h1, h⟩ := Option.bind_eq_some_iff.mp h
    obtain ⟨⟨t2, e2⟩, h2, h⟩ := Option.bind_eq_some_iff.mp h
    obtain ⟨L, hL, h⟩ := Option.bind_eq_some_iff.mp h
    obtain ⟨rr, hr, h⟩ := Option.bind_eq_some_iff.mp h
    injection h with h
    injection h with h3 h4
    subst h3 h4
    have H1 := Aside0.mk h1
    have H2 := Aside0.mk h2
    have HL := Aside0.mk hL
    have HR := Aside0.mk hr
    clear h1 h2 hL hr
    refine callsIn_wide.1 (callsIn_of_wp_marks (n := 10) Try.func20 rfl trivial (wpIn_mono (Q := noPanic (bodyPostM Fence.wide 10 Try.prog Try.f20 _)) (wpIn_wide.2 ?_) of_noPanic) rfl)
    simp only [Try.ntmps20, List.size_toArray, List.length_cons, List.length_nil, Nat.reduceAdd, Nat.reduceSub, Array.replicate_succ, Array.replicate_zero, List.push_toArray, List.append_toArray, List.nil_append, List.cons_append]
    have b3 : Boxed ((w.alloc (.cells #[.slice A0 l0.length c0] 23)).alloc (.cells #[.slice A2 l2.length c2] 23)) w.heap.size 23 (.slice A0 l0.length c0) := (Boxed.new w 23 _).alloc _
    have b5 : Boxed ((w.alloc (.cells #[.slice A0 l0.length c0] 23)).alloc (.cells #[.slice A2 l2.length c2] 23)) (w.heap.size + 1) 23 (.slice A2 l2.length c2) := by have := Boxed.new (w.alloc (.cells #[.slice A0 l0.length c0] 23)) 23 (.slice A2 l2.length c2); rwa [World.size_alloc] at this
    have hB1 : Below w.heap.size w ((w.alloc (.cells #[.slice A0 l0.length c0] 23)).alloc (.cells #[.slice A2 l2.length c2] 23)) := ((Below.refl _ w).alloc (Nat.le_refl _) _).alloc (by simp) _
    have hsz : ((w.alloc (.cells #[.slice A0 l0.length c0] 23)).alloc (.cells #[.slice A2 l2.length c2] 23)).heap.size = w.heap.size + 2 := by simp
    go_wp2_with (go_at_call 38; refine (modular_Of.calls k _ _ l0 _ _ l2 ta 0 _ ?s1 hc0 ?s2 hc2 HA.out).mono ?_; (case s1 => exact Kd.C_below HR0.out hB1); (case s2 => exact Kd.C_below HR2.out hB1); rintro e w1 ⟨va, rfl, hoa, hba⟩; obtain ⟨Aa, ca, rfl⟩ := Kd.R_slice hoa; have d3 := box_below b3 hba (by omega); have d5 := box_below b5 hba (by omega); have hc3 := d3.cell; have hf3 := d3.frozen)
    have e3 := d3.set (.slice Aa ta.length ca)
    have e5 := d5.other (B' := w.heap.size) (by omega) (.slice Aa ta.length ca)
    have hB2 : Below w.heap.size w (w1.setCell ⟨w.heap.size, 0, none⟩ (.slice Aa ta.length ca)) := (hB1.trans (hba.mono (by omega))).setCell (Nat.le_refl _) _
    have hoa2 : Kd.R (Kd.int .u64) 44 (w1.setCell ⟨w.heap.size, 0, none⟩ (.slice Aa ta.length ca)) w.heap.size (fun _ => True) (.slice Aa ta.length ca) ta := own_set d3 (Kd.R_lower hoa (by omega))
    obtain ⟨W2, hW2⟩ : ∃ W2, w1.setCell ⟨w.heap.size, 0, none⟩ (.slice Aa ta.length ca) = W2 := ⟨_, rfl⟩
    rw [hW2] at e3 e5 hB2 hoa2 ⊢
    have hc5 := e5.cell
    have hc5b : ∀ o, (W2.alloc o).cell? ⟨w.heap.size + 1, 0, none⟩ = some (.slice A2 l2.length c2) := fun o => (Boxed.alloc e5 o).cell
    have hc5a : ∀ o, (W2.drew.alloc o).cell? ⟨w.heap.size + 1, 0, none⟩ = some (.slice A2 l2.length c2) := fun o => (Boxed.alloc (W := W2.drew) e5 o).cell
    have hsz2 : w.heap.size + 2 ≤ W2.heap.size := by rw [← hW2]; have := hba.size; simp; omega
    clear hW2 d3 d5 hc3 hf3 b3 b5 hoa hba hsz hB1
    rename_i K4 hK4
    unfold modular_Pow.rounds at HR
    have hrr := HR.out
    split at hrr
    · rename_i hgood
      obtain ⟨hlen, hL0, hLz, hok⟩ := hgood
      obtain ⟨Ln, rfl⟩ := Int.eq_ofNat_of_zero_le hL0
      rw [show ((Ln : Nat) : Int).toNat = Ln from rfl] at hok hrr
      have HOK := Aside0.mk hok
      have HRR := Aside0.mk hrr
      clear hok hrr HR hL0
      go_region_with (first
        | (go_at_call 32; refine (nat_Of.calls k 1 t1 _ H1.out).mono ?_; rintro e wq ⟨vq, rfl, hoq, hbq⟩; obtain ⟨Aq, cq, rfl⟩ := Kd.R_slice hoq; have f5 : Boxed wq (w.heap.size + 1) 23 (.slice A2 l2.length c2) := (by first | exact (hbq.block _ (by simp; omega)).trans e5 | exact (hbq.block _ (by simp; omega)).trans (Boxed.alloc (W := W2.drew) e5 _)); have f3 : Boxed wq w.heap.size 23 (.slice Aa ta.length ca) := (by first | exact (hbq.block _ (by simp; omega)).trans e3 | exact (hbq.block _ (by simp; omega)).trans (Boxed.alloc (W := W2.drew) e3 _)); have fB : Below w.heap.size w wq := (by first | exact hB2.drew.trans (hbq.mono (by simp; omega)) | exact (hB2.drew.alloc (by simp; omega) _).trans (hbq.mono (by simp; omega))); have fR : Kd.R (Kd.int .u64) 44 wq w.heap.size (fun _ => True) (.slice Aa ta.length ca) ta := (by first | exact Kd.R_below (Kd.R_drew hoa2) hbq | exact Kd.R_below (Kd.R_alloc (Kd.R_drew hoa2) _) hbq); have fs : w.heap.size + 2 ≤ wq.heap.size := (by have := hbq.size; simp at this; omega); have hcq5 := f5.cell; have hcq5a : ∀ o, (wq.alloc o).cell? ⟨w.heap.size + 1, 0, none⟩ = some (.slice A2 l2.length c2) := fun o => (f5.alloc o).cell; (try (have g9 : Boxed wq W2.heap.size 23 (.slice none 0 0) := (hbq.block _ (by simp)).trans (Boxed.new W2.drew 23 _); have hg9 := g9.cell; have hgf9 := g9.frozen)))
        | (go_at_call 38; refine (modular_Of.calls k _ _ t1 _ _ l2 t2 e2 _ ?s1 ?s2 ?s3 hc2 H2.out).mono ?_; (case s1 => first | exact (Kd.R_reads' hoq).2.2 | exact Kd.C_alloc (Kd.R_reads' hoq).2.2 _); (case s2 => exact (Kd.R_reads' hoq).2.1); (case s3 => first | exact Kd.C_below HR2.out fB | exact Kd.C_alloc (Kd.C_below HR2.out fB) _); rintro e wr ⟨vr, rfl, hor, hbr⟩; obtain ⟨Ar, cr, rfl⟩ := Kd.R_slice hor; have k5 : Boxed wr (w.heap.size + 1) 23 (.slice A2 l2.length c2) := (by first | exact (hbr.block _ (by first | omega | (simp; omega))).trans f5 | exact (hbr.block _ (by first | omega | (simp; omega))).trans (f5.alloc _)); have k3 : Boxed wr w.heap.size 23 (.slice Aa ta.length ca) := (by first | exact (hbr.block _ (by first | omega | (simp; omega))).trans f3 | exact (hbr.block _ (by first | omega | (simp; omega))).trans (f3.alloc _)); have kB : Below w.heap.size w wr := (by first | exact fB.trans (hbr.mono (by first | omega | (simp; omega))) | exact (fB.alloc (by omega) _).trans (hbr.mono (by first | omega | (simp; omega)))); have kR : Kd.R (Kd.int .u64) 44 wr w.heap.size (fun _ => True) (.slice Aa ta.length ca) ta := (by first | exact Kd.R_below fR hbr | exact Kd.R_below (Kd.R_alloc fR _) hbr); have kO : Kd.R (Kd.int .u64) 44 wr w.heap.size (fun _ => True) (.slice Ar t2.length cr) t2 := Kd.R_lower hor (by first | omega | (simp; omega)); have ks : w.heap.size + 2 ≤ wr.heap.size := (by have := hbr.size; first | omega | (simp at this; omega)); (first | (have k9 : Boxed wr W2.heap.size 23 (.slice none 0 0) := (hbr.block _ g9.lt).trans g9; have hk9 := k9.cell; have hkf9 := k9.frozen; have hk92 : w.heap.size + 2 ≤ W2.heap.size := hsz2) | (have k9 : Boxed wr wq.heap.size 23 (.slice none 0 0) := (hbr.block _ (by simp)).trans (Boxed.new wq 23 _); have hk9 := k9.cell; have hkf9 := k9.frozen; have hk92 : w.heap.size + 2 ≤ wq.heap.size := fs) | skip)))
      all_goals (first
        | have hSt := PowSt.put k9 k3 k5 kB kR kO hk92
        | have hSt : PowSt w wr.heap.size Aa ca ta A2 c2 l2 (wr.alloc (.cells #[.slice Ar t2.length cr] 23)) t2 := ⟨Ar, cr, Boxed.new wr 23 _, Kd.R_alloc kO _, k3.alloc _, Kd.R_alloc kR _, k5.alloc _, kB.alloc (by omega) _, ks⟩)
      all_goals
        refine hK4 _ _ ?_
        exact modular_Pow.tail_wp _ _ _ _ _ rfl k w _ _ _ _ _ _ _ _ _ _ _ _ _ _ _ _ _ _ _ _ _ _ _ _ _ _ _ _ _ _ hc1 hc2 HR1 HR2 hlen HL hLz HOK HRR hSt
    · cases hrr
  · rw [if_neg hte] at h
    injection h with h
    injection h with h3 h4
    subst h3 h4
    have b3 : Boxed ((w.alloc (.cells #[.slice A0 l0.length c0] 23)).alloc (.cells #[.slice A2 l2.length c2] 23)) w.heap.size 23 (.slice A0 l0.length c0) := (Boxed.new w 23 _).alloc _
    have hB1 : Below w.heap.size w ((w.alloc (.cells #[.slice A0 l0.length c0] 23)).alloc (.cells #[.slice A2 l2.length c2] 23)) := ((Below.refl _ w).alloc (Nat.le_refl _) _).alloc (by simp) _
    have hsz : ((w.alloc (.cells #[.slice A0 l0.length c0] 23)).alloc (.cells #[.slice A2 l2.length c2] 23)).heap.size = w.heap.size + 2 := by simp
    have hne : (te == 0) = false := beq_eq_false_iff_ne.2 hte
    go_enter Try.func20, Try.ntmps20
    go_wp2_with (go_at_call 38; refine (modular_Of.calls k _ _ l0 _ _ l2 ta te _ ?s1 hc0 ?s2 hc2 HA.out).mono ?_; (case s1 => exact Kd.C_below HR0.out hB1); (case s2 => exact Kd.C_below HR2.out hB1); rintro e w1 ⟨va, rfl, hoa, hba⟩; obtain ⟨Aa, ca, rfl⟩ := Kd.R_slice hoa; have d3 := box_below b3 hba (by omega); have hc3 := d3.cell; have hf3 := d3.frozen)
    refine bodyPost_ret (results_tmp2 rfl _ _ _) rfl ?_
    exact ⟨_, rfl, Kd.R_nil _ _ _ _ _, (hB1.trans (hba.mono (by omega))).setCell (Nat.le_refl _) _⟩

end Go.Proofs.Ytanjbjenohdodaa.B
