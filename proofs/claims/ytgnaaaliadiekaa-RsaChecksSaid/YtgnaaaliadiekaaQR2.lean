/- RsaChecks: the law's keys, and its plain statement. -/
import Derived.Test.YtgnaaaliadiekaaBx0
import Derived.Test.YtgnaaaliadiekaaBx27
import Derived.Test.YtgnaaaliadiekaaBx48
import Derived.Test.YtgnaaaliadiekaaQR1
import Derived.KernelRfl
import Derived.OpenShut
namespace Go.Proofs.Ytgnaaaliadiekaa.Q
open Go.RowKit Go.Proofs.Ytgnaaaliadiekaa.B Go.Proofs.YtgnaaaliadiekaaW.PrintWords Go.Proofs.YtgnaaaliadiekaaW.PrintLast Go.Proofs.YtgnaaaliadiekaaW.PrintMore
set_option linter.unusedVariables false
def rsaBoth (k : Nat) (s : Int) : Option (List Int × List Int) := (latchkeyhand12_rsa.f k s).bind fun t => (latchkeyref01_Nat.f k t.1).bind fun a => (latchkeyref01_Nat.f k t.2.1).bind fun b => some (a, b)
def mod0 : List Int := [13215640196353063927, 5841759143904922440, 2843299552865643899, 7463753109511723457, 17288113067076078199, 11658506619634536861, 1426099580462817740, 11665276504313425703]
def mod1 : List Int := [906043357231504151, 601786162920312311, 10949622689358904242, 17881107666273980743, 14364696863484474418, 8718377716181357693, 1142312608529148492, 15060918805364386796]
theorem both0 : rsaBoth 5000 0 = some (mod0, [65537]) := by kernel_rfl
theorem both1 : rsaBoth 5000 1 = some (mod1, [3]) := by kernel_rfl
theorem rsa_even (k : Nat) (s : Int) (h : Int.tmod s 2 = 0) : latchkeyhand12_rsa.f k s = latchkeyhand12_rsa.f k 0 := by
  unfold latchkeyhand12_rsa.f
  rw [if_pos h, if_pos (show Int.tmod 0 2 = 0 from rfl)]
theorem rsa_odd (k : Nat) (s : Int) (h : ¬ Int.tmod s 2 = 0) : latchkeyhand12_rsa.f k s = latchkeyhand12_rsa.f k 1 := by
  unfold latchkeyhand12_rsa.f
  rw [if_neg h, if_neg (show ¬ Int.tmod 1 2 = 0 by decide)]
theorem mod0_L : L64 mod0 := by intro x hx; simp only [mod0, List.mem_cons, List.not_mem_nil, or_false] at hx; omega
theorem mod1_L : L64 mod1 := by intro x hx; simp only [mod1, List.mem_cons, List.not_mem_nil, or_false] at hx; omega
theorem exp_L (x : Int) (h0 : 0 ≤ x) (h1 : x < 18446744073709551616) : L64 [x] := by intro y hy; simp only [List.mem_cons, List.not_mem_nil, or_false] at hy; omega
theorem rsaKey_of {s : Int} {a b : List Int} (h : rsaBoth 5000 s = some (a, b)) : ∃ n e d, Ev (fun k => latchkeyhand12_rsa.f k s) (n, e, d) ∧ Ev (fun k => latchkeyref01_Nat.f k n) a ∧ Ev (fun k => latchkeyref01_Nat.f k e) b := by
  unfold rsaBoth at h
  obtain ⟨⟨n, e, d⟩, h1, h⟩ := Option.bind_eq_some_iff.1 h
  obtain ⟨a', h2, h⟩ := Option.bind_eq_some_iff.1 h
  obtain ⟨b', h3, h⟩ := Option.bind_eq_some_iff.1 h
  simp only [Option.some.injEq, Prod.mk.injEq] at h
  obtain ⟨rfl, rfl⟩ := h
  exact ⟨n, e, d, Ev.of (latchkeyhand12_rsa.mono s) h1, Ev.of (latchkeyref01_Nat.mono n) h2, Ev.of (latchkeyref01_Nat.mono e) h3⟩
theorem rsaKey (s : Int) : ∃ n e d a b, Ev (fun k => latchkeyhand12_rsa.f k s) (n, e, d) ∧ Ev (fun k => latchkeyref01_Nat.f k n) a ∧ Ev (fun k => latchkeyref01_Nat.f k e) b ∧ a.length = 8 ∧ b.length = 1 ∧ L64 a ∧ L64 b := by
  by_cases h : Int.tmod s 2 = 0
  · obtain ⟨n, e, d, h1, h2, h3⟩ := rsaKey_of both0
    exact ⟨n, e, d, _, _, Ev.congr (fun k => rsa_even k s h) h1, h2, h3, rfl, rfl, mod0_L, exp_L _ (by decide) (by decide)⟩
  · obtain ⟨n, e, d, h1, h2, h3⟩ := rsaKey_of both1
    exact ⟨n, e, d, _, _, Ev.congr (fun k => rsa_odd k s h) h1, h2, h3, rfl, rfl, mod1_L, exp_L _ (by decide) (by decide)⟩
theorem wf_L64 {l : List Int} (h : ∀ x ∈ l, (Lit.int .u64 x).wf = true) : L64 l := fun x hx => by have := wf_u64 (h x hx); exact ⟨this.1, by omega⟩
theorem checks (l0 l1 l2 : List Int) (s at_ : Int) (w0 : ∀ x ∈ l0, (Lit.int .u64 x).wf = true) (w1 : ∀ x ∈ l1, (Lit.int .u64 x).wf = true) (w2 : ∀ x ∈ l2, (Lit.int .u64 x).wf = true) :
    ∃ k n e d n2 e2 rN rE, latchkeyhand12_rsa.f k s = some (n, e, d) ∧ latchkeyref01_Nat.f k n = some n2 ∧ latchkeyref01_Nat.f k e = some e2 ∧ 0 < n2.length ∧
      rN = (if 3 < s % 8 then n2.set (at_ % n2.length).toNat (Go.bits .xor .u64 (rd n2 (at_ % n2.length)) (IntKind.u64.wrap (1 * 2 ^ (at_ % 64).toNat))) else n2) ∧ rE = (if 1 < s % 4 then l2 else e2) ∧
      ((40 : Int) < l0.length ∨ (40 : Int) < l1.length ∨ (10 : Int) < l2.length ∨ KeyOk k l0 l1 ∧ KeyOk k rN rE ∧ KeyOk k l0 l2 ∧ KeyOk k rN rN) := by
  obtain ⟨n, e, d, n2, e2, ⟨K1, h1⟩, ⟨K2, h2⟩, ⟨K3, h3⟩, ln, le, Ln, Le⟩ := rsaKey s
  by_cases q0 : (40 : Int) < l0.length
  · exact ⟨K1 + K2 + K3, n, e, d, n2, e2, _, _, h1 _ (by omega), h2 _ (by omega), h3 _ (by omega), by omega, rfl, rfl, .inl q0⟩
  by_cases q1 : (40 : Int) < l1.length
  · exact ⟨K1 + K2 + K3, n, e, d, n2, e2, _, _, h1 _ (by omega), h2 _ (by omega), h3 _ (by omega), by omega, rfl, rfl, .inr (.inl q1)⟩
  by_cases q2 : (10 : Int) < l2.length
  · exact ⟨K1 + K2 + K3, n, e, d, n2, e2, _, _, h1 _ (by omega), h2 _ (by omega), h3 _ (by omega), by omega, rfl, rfl, .inr (.inr (.inl q2))⟩
  have hN : ∀ rN : List Int, rN = (if 3 < s % 8 then n2.set (at_ % n2.length).toNat (Go.bits .xor .u64 (rd n2 (at_ % n2.length)) (IntKind.u64.wrap (1 * 2 ^ (at_ % 64).toNat))) else n2) → L64 rN ∧ rN.length = 8 := by
    rintro rN rfl
    split
    · have hw := wf_u64 (wf_bits .xor .u64 (rd n2 (at_ % n2.length)) (IntKind.u64.wrap (1 * 2 ^ (at_ % 64).toNat)))
      exact ⟨Ln.set hw.1 (by omega), by rw [List.length_set]; exact ln⟩
    · exact ⟨Ln, ln⟩
  have hE : ∀ rE : List Int, rE = (if 1 < s % 4 then l2 else e2) → L64 rE ∧ rE.length ≤ 10 := by
    rintro rE rfl
    split
    · exact ⟨wf_L64 w2, by omega⟩
    · exact ⟨Le, by omega⟩
  obtain ⟨rN, eN⟩ : ∃ rN, rN = (if 3 < s % 8 then n2.set (at_ % n2.length).toNat (Go.bits .xor .u64 (rd n2 (at_ % n2.length)) (IntKind.u64.wrap (1 * 2 ^ (at_ % 64).toNat))) else n2) := ⟨_, rfl⟩
  obtain ⟨rE, eE⟩ : ∃ rE, rE = (if 1 < s % 4 then l2 else e2) := ⟨_, rfl⟩
  obtain ⟨aN, bN⟩ := hN rN eN
  obtain ⟨aE, bE⟩ := hE rE eE
  obtain ⟨K4, h4⟩ := KeyOk_ev (wf_L64 w0) (wf_L64 w1) (by omega) (by omega)
  obtain ⟨K5, h5⟩ := KeyOk_ev aN aE (by omega) (by omega)
  obtain ⟨K6, h6⟩ := KeyOk_ev (wf_L64 w0) (wf_L64 w2) (by omega) (by omega)
  obtain ⟨K7, h7⟩ := KeyOk_ev aN aN (by omega) (by omega)
  exact ⟨K1 + K2 + K3 + K4 + K5 + K6 + K7, n, e, d, n2, e2, rN, rE, h1 _ (by omega), h2 _ (by omega), h3 _ (by omega), by omega, eN, eE, .inr (.inr (.inr ⟨h4 _ (by omega), h5 _ (by omega), h6 _ (by omega), h7 _ (by omega)⟩))⟩
end Go.Proofs.Ytgnaaaliadiekaa.Q
