/- A part of the proof (merged by pack.py, a program of this session: what the row's proof names). -/
import Derived.Test.YtgnaaaliadiekaaM4
import Derived.Test.YtgnaaaliadiekaaM5
import Derived.Test.YtgnaaaliadiekaaM8
import Derived.Test.YtgnaaaliadiekaaM41
import Derived.Test.YtgnaaaliadiekaaM0
import Derived.KernelRfl
import Derived.OpenShut
section
namespace Go.Proofs.Ytgnaaaliadiekaa.Q
open Go.RowKit Go.Proofs.Ytgnaaaliadiekaa.B Go.Proofs.YtgnaaaliadiekaaW.PrintWords Go.Proofs.YtgnaaaliadiekaaW.PrintLast Go.Proofs.YtgnaaaliadiekaaW.PrintMore
set_option linter.unusedVariables false
def rsaBoth (k : Nat) (s : Int) : Option (List Int × List Int) := (ybk.f k s).bind fun t => (yal.f k t.1).bind fun a => (yal.f k t.2.1).bind fun b => some (a, b)
def mod0 : List Int := [13215640196353063927, 5841759143904922440, 2843299552865643899, 7463753109511723457, 17288113067076078199, 11658506619634536861, 1426099580462817740, 11665276504313425703]
def mod1 : List Int := [906043357231504151, 601786162920312311, 10949622689358904242, 17881107666273980743, 14364696863484474418, 8718377716181357693, 1142312608529148492, 15060918805364386796]
theorem both0 : rsaBoth 5000 0 = some (mod0, [65537]) := by kernel_rfl
theorem both1 : rsaBoth 5000 1 = some (mod1, [3]) := by kernel_rfl
theorem rsa_even (k : Nat) (s : Int) (h : Int.tmod s 2 = 0) : ybk.f k s = ybk.f k 0 := by
 unfold ybk.f
 rw [if_pos h, if_pos (show Int.tmod 0 2 = 0 from rfl)]
theorem rsa_odd (k : Nat) (s : Int) (h : ¬ Int.tmod s 2 = 0) : ybk.f k s = ybk.f k 1 := by
 unfold ybk.f
 rw [if_neg h, if_neg (show ¬ Int.tmod 1 2 = 0 by decide)]
theorem mod0_L : L64 mod0 := by intro x hx; simp only [mod0, List.mem_cons, List.not_mem_nil, or_false] at hx; omega
theorem mod1_L : L64 mod1 := by intro x hx; simp only [mod1, List.mem_cons, List.not_mem_nil, or_false] at hx; omega
theorem exp_L (x : Int) (h0 : 0 ≤ x) (h1 : x < 18446744073709551616) : L64 [x] := by intro y hy; simp only [List.mem_cons, List.not_mem_nil, or_false] at hy; omega
theorem rsaKey_of {s : Int} {a b : List Int} (h : rsaBoth 5000 s = some (a, b)) : ∃ n e d, Ev (fun k => ybk.f k s) (n, e, d) ∧ Ev (fun k => yal.f k n) a ∧ Ev (fun k => yal.f k e) b := by
 unfold rsaBoth at h
 obtain ⟨⟨n, e, d⟩, h1, h⟩ := Option.bind_eq_some_iff.1 h
 obtain ⟨a', h2, h⟩ := Option.bind_eq_some_iff.1 h
 obtain ⟨b', h3, h⟩ := Option.bind_eq_some_iff.1 h
 simp only [Option.some.injEq, Prod.mk.injEq] at h
 obtain ⟨rfl, rfl⟩ := h
 exact ⟨n, e, d, Ev.of (ybk.mono s) h1, Ev.of (yal.mono n) h2, Ev.of (yal.mono e) h3⟩
theorem rsaKey (s : Int) : ∃ n e d a b, Ev (fun k => ybk.f k s) (n, e, d) ∧ Ev (fun k => yal.f k n) a ∧ Ev (fun k => yal.f k e) b ∧ a.length = 8 ∧ b.length = 1 ∧ L64 a ∧ L64 b := by
 by_cases h : Int.tmod s 2 = 0
 · obtain ⟨n, e, d, h1, h2, h3⟩ := rsaKey_of both0
   exact ⟨n, e, d, _, _, Ev.congr (fun k => rsa_even k s h) h1, h2, h3, rfl, rfl, mod0_L, exp_L _ (by decide) (by decide)⟩
 · obtain ⟨n, e, d, h1, h2, h3⟩ := rsaKey_of both1
   exact ⟨n, e, d, _, _, Ev.congr (fun k => rsa_odd k s h) h1, h2, h3, rfl, rfl, mod1_L, exp_L _ (by decide) (by decide)⟩
theorem wf_L64 {l : List Int} (h : ∀ x ∈ l, (Lit.int .u64 x).wf = true) : L64 l := fun x hx => by have := wf_u64 (h x hx); exact ⟨this.1, by omega⟩
end Go.Proofs.Ytgnaaaliadiekaa.Q
end
