/- Written by xp.py, a program of this session, over the print of the kit: what it says is checked by its build. -/
import Derived.Test.YtbnbofflnpppfaaProg
import Derived.Below
import Derived.Deep.Draws
import Derived.Deep.AppendLies
import Derived.Maps.AppendAt
import Derived.OwnWalk
import Derived.Laws.BytesArg
import Derived.Laws.MakeOwn
import Derived.Laws.OwnMore
import Derived.Deep.OwnRows
import Derived.Tactics
import Derived.Lib.ConvBytes
import Derived.Laws.Slices
import Derived.WalkKit
import Derived.KernelRfl
import Derived.RowKit3
import Derived.Deep.LoopGhost
import Derived.Deep.QuietTactic
import Derived.BigQuiet
import Derived.WideLaws
import Derived.Deep.DeepCutAuto
import Derived.Deep.CutBlock
import Derived.Deep.RegionHeld3
import Derived.Laws.Rows
import Derived.Lib.AppendStr
import Derived.ArgAppend
import Derived.Laws.IdiomCopy
import Derived.OrdersHeld
import Derived.Laws.BitsLemmas
import Derived.RowKit
import Derived.Test.YtbnbofflnpppfaaVWords
import Derived.Laws.Externs
namespace Go.Proofs.Ytbnbofflnpppfaa.B
open Go.RowKit Go.Proofs.YtbnbofflnpppfaaW.PrintWords Go.Proofs.YtbnbofflnpppfaaW.PrintLast Go.Proofs.YtbnbofflnpppfaaW.PrintMore
attribute [local go_sem] max2_int min2_int max_two min_two max_three min_three max_four min_four   -- for this text's walks alone
set_option linter.unusedVariables false
set_option linter.unusedSimpArgs false

/-- The sum's low word, and its carry, as the model has them. -/
def add64s (x y c : Int) : Int := (((x.toNat + y.toNat + c.toNat) % 18446744073709551616 : Nat) : Int)
def add64c (x y c : Int) : Int := (((x.toNat + y.toNat + c.toNat) / 18446744073709551616 : Nat) : Int)
def sub64s (x y b : Int) : Int := (((x.toNat + 18446744073709551616 - y.toNat - b.toNat) % 18446744073709551616 : Nat) : Int)
def sub64c (x y b : Int) : Int := if x.toNat < y.toNat + b.toNat then 1 else 0
def sub64Entry : Array Value → Sem Value := fun args => do
  let (x, y, b) ← Extern.MathBitsCarry.three "Sub64" args
  pure (Extern.MathBitsCarry.pair ((x + Extern.MathBitsCarry.m64 - y - b) % Extern.MathBitsCarry.m64) (if x < y + b then 1 else 0))
theorem addEntry_run (x y c : Int) (hc : c.toNat ≤ 1) (w : World) : (add64Entry #[.int .u64 x, .int .u64 y, .int .u64 c]).run Try.prog w = .ok (.tuple #[.int .u64 (add64s x y c), .int .u64 (add64c x y c)]) w := by
  match c, hc with
  | .ofNat 0, _ => rfl
  | .ofNat 1, _ => rfl
  | .ofNat (n + 2), h => exact absurd h (by show ¬ n + 2 ≤ 1; omega)
  | .negSucc n, _ => rfl
theorem subEntry_run (x y c : Int) (hc : c.toNat ≤ 1) (w : World) : (sub64Entry #[.int .u64 x, .int .u64 y, .int .u64 c]).run Try.prog w = .ok (.tuple #[.int .u64 (sub64s x y c), .int .u64 (sub64c x y c)]) w := by
  have key : ∀ k : Nat, k ≤ 1 → (sub64Entry #[.int .u64 x, .int .u64 y, .int .u64 (k : Int)]).run Try.prog w =
      .ok (.tuple #[.int .u64 (((x.toNat + 18446744073709551616 - y.toNat - k) % 18446744073709551616 : Nat) : Int), .int .u64 (((if x.toNat < y.toNat + k then 1 else 0 : Nat) : Nat) : Int)]) w := by
    intro k hk
    have : k = 0 ∨ k = 1 := by omega
    rcases this with rfl | rfl <;> rfl
  have e : (sub64Entry #[.int .u64 x, .int .u64 y, .int .u64 c]).run Try.prog w = (sub64Entry #[.int .u64 x, .int .u64 y, .int .u64 (c.toNat : Int)]).run Try.prog w := by
    match c, hc with
    | .ofNat 0, _ => rfl
    | .ofNat 1, _ => rfl
    | .ofNat (n + 2), h => exact absurd h (by show ¬ n + 2 ≤ 1; omega)
    | .negSucc n, _ => rfl
  rw [e, key _ hc]
  unfold sub64s sub64c
  split <;> rfl
theorem run_Add64 (x y c : Int) (hc : decide (c.toNat ≤ 1) = true) (w : World) : (callFunc 58 #[.int .u64 x, .int .u64 y, .int .u64 c]).run Try.prog w = .ok (.value (.tuple #[.int .u64 (add64s x y c), .int .u64 (add64c x y c)])) w := by
  rw [run_callFunc_extern Try.func58 (by kernel_rfl) (by kernel_rfl) (by kernel_rfl) (e := add64Entry) (by kernel_rfl), addEntry_run x y c (of_decide_eq_true hc)]
  rfl
theorem run_Sub64 (x y c : Int) (hc : decide (c.toNat ≤ 1) = true) (w : World) : (callFunc 61 #[.int .u64 x, .int .u64 y, .int .u64 c]).run Try.prog w = .ok (.value (.tuple #[.int .u64 (sub64s x y c), .int .u64 (sub64c x y c)])) w := by
  rw [run_callFunc_extern Try.func61 (by kernel_rfl) (by kernel_rfl) (by kernel_rfl) (e := sub64Entry) (by kernel_rfl), subEntry_run x y c (of_decide_eq_true hc)]
  rfl
theorem run_Add64_0 (x y : Int) (w : World) : (callFunc 58 #[.int .u64 x, .int .u64 y, .int .u64 0]).run Try.prog w = .ok (.value (.tuple #[.int .u64 (add64s x y 0), .int .u64 (add64c x y 0)])) w := run_Add64 x y 0 rfl w
theorem run_Sub64_0 (x y : Int) (w : World) : (callFunc 61 #[.int .u64 x, .int .u64 y, .int .u64 0]).run Try.prog w = .ok (.value (.tuple #[.int .u64 (sub64s x y 0), .int .u64 (sub64c x y 0)])) w := run_Sub64 x y 0 rfl w
/-- A row that came in, told as shared: it stays as long as the blocks that were there stay. -/
theorem V_of_int {k : IntKind} {e : Nat} {w : World} {base : Nat} {A : Option Addr} {c : Nat} {xs : List Int} (h : Kd.C (Kd.int k) w A xs.length xs) (hc : xs.length ≤ c) :
    Kd.V (Kd.int k) e w base (fun k_ => k_ < w.heap.size) (.slice A xs.length c) xs := by
  refine ⟨A, c, rfl, hc, fun W' hW => ⟨h.1, h.2.1, fun hn => ?_⟩⟩
  obtain ⟨ad, e, hcells⟩ := h.2.2 hn
  refine ⟨ad, e, fun j p hj => ?_⟩
  obtain ⟨cs, hs, hr, hcell⟩ := hcells j p hj
  refine ⟨cs, hs, hr, fun i u hu => ?_⟩
  have hlt := World.block_lt_of_cell? w _ (hcell i u hu)
  exact (World.cell?_of_block (hW _ hlt hlt)).trans (hcell i u hu)

end Go.Proofs.Ytbnbofflnpppfaa.B
