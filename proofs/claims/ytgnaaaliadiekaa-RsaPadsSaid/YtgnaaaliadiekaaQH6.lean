/- How an argument that is an array of whole numbers is opened. -/
import Derived.Test.YtgnaaaliadiekaaBx0
import Derived.WalkKit
import Derived.ProofKit
import Derived.OpenShut
import Derived.Test.YtgnaaaliadiekaaQA0
namespace Go.Proofs.Ytgnaaaliadiekaa.B
open Go.ChangeShapes Go.WideShapes Go.RowKit
set_option linter.unusedVariables false
theorem list_ints {q : IntKind} : ∀ (l : List Value), (∀ v ∈ l, ∃ a, v = Value.int q a ∧ (Lit.int q a).wf = true) → ∃ xs : List Int, l = xs.map (Value.int q) ∧ ∀ x ∈ xs, (Lit.int q x).wf = true
  | [], _ => ⟨[], rfl, by simp⟩
  | v :: l, h => by
    obtain ⟨a, rfl, hw⟩ := h v (by simp)
    obtain ⟨xs, rfl, hx⟩ := list_ints l (fun v hv => h v (by simp [hv]))
    exact ⟨a :: xs, rfl, by simpa using ⟨hw, hx⟩⟩
theorem open_ints_array {H : Type} {enc : TypeId × Value → H} {P : Program} {W : World} {base b0 : Nat} {sp : Nat → Bool} {held : Bool} {r : Reach} {t e : TypeId} {n : Nat} {q : IntKind} {v : Value} {d : DataW H} {ps : List MemPlace}
    (ht : P.underlying t = some (.array n e)) (he : P.underlying e = some (.int q)) (hce : P.cellsOf e = 1) (hct : P.cellsOf t = n) (hval : Value.okWide P W r b0 t v) (hd : DataW.Trod enc P W base sp held t v d ps) :
    ∃ xs : List Int, v = .agg (xs.map (Value.int q)).toArray ∧ xs.length = n ∧ ∀ x ∈ xs, (Lit.int q x).wf = true := by
  simp only [Value.okWide, ht] at hval
  obtain ⟨cs, rfl, hsz, -⟩ := hval
  obtain ⟨fuel, hf⟩ := hd
  obtain ⟨xs, m, -, -, hl, hxl, hg⟩ := DataW.trod_array ht hf
  have hcl : cs.toList.length = n := by simpa [hct] using hsz
  have hall : ∀ v ∈ cs.toList, ∃ a, v = Value.int q a ∧ (Lit.int q a).wf = true := by
    intro v hv
    obtain ⟨i, hi, rfl⟩ := List.getElem_of_mem hv
    have h1 := hg i (by omega)
    rw [List.getElem?_eq_getElem (by omega)] at h1
    rw [hce, Nat.mul_one] at h1
    obtain ⟨a, h2, -, hw⟩ := DataW.trod_int he h1
    refine ⟨a, ?_, hw⟩
    have h3 : ((cs.toList.drop i).take 1)[0]? = some (cs.toList[i]) := by
      rw [List.getElem?_take, if_pos (by omega), List.getElem?_drop, Nat.add_zero, List.getElem?_eq_getElem hi]
    have h4 : (cs.toList.drop i).take 1 = [Value.int q a] := h2
    rw [h4] at h3
    simpa using h3.symm
  obtain ⟨zs, hz, hw⟩ := list_ints _ hall
  refine ⟨zs, ?_, ?_, hw⟩
  · rw [← hz]
  · rw [← hcl, hz, List.length_map]
end Go.Proofs.Ytgnaaaliadiekaa.B
