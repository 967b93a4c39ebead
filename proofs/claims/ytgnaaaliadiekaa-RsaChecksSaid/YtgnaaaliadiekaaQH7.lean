/- A signer's key, of Kind 15: by powers. -/
import Derived.Test.YtgnaaaliadiekaaBx0
import Derived.Test.YtgnaaaliadiekaaBx27
import Derived.Test.YtgnaaaliadiekaaBx34
import Derived.Test.YtgnaaaliadiekaaBx48
import Derived.Test.YtgnaaaliadiekaaQH0
namespace Go.Proofs.Ytgnaaaliadiekaa.B
open Go.RowKit Go.Proofs.YtgnaaaliadiekaaW.PrintWords Go.Proofs.YtgnaaaliadiekaaW.PrintLast Go.Proofs.YtgnaaaliadiekaaW.PrintMore
set_option linter.unusedVariables false
set_option linter.unusedSimpArgs false
theorem R_block_lt {k : IntKind} {e : Nat} {w : World} {b : Nat} {ok : Nat → Prop} {v : Value} {xs : List Int} (h : Kd.R (Kd.int k) e w b ok v xs) : ∀ g, v.ownBlock = some g → g < w.heap.size := by
  intro g hg
  have h' := Kd.own_of_R h
  rcases h'.2 with ⟨rfl, _⟩ | ⟨g', cap, cur, rfl, _, hh, _⟩
  · simp [Value.ownBlock] at hg
  · have : g' = g := by simpa [Value.ownBlock] using hg
    subst this
    exact (Array.getElem?_eq_some_iff.1 hh).1
section
variable {P : Program} {ops : Array Oper} {rest : List Oper} {op : Oper} {a : Act} {Q : Exit → Act → World → Prop}
/-- A whole block is written. -/
theorem store_block {w : World} (hgd : op.guard = none) {ty : TypeId} {x y : Operand} (ho : op.op = .store ty x y) {b : Nat} {cells cur : Array Value} {t : TypeId} (hx : a.eval x = .pointer (some ⟨b, 0, none⟩)) (hy : a.eval y = .agg cells)
    (hb : w.heap[b]? = some (.cells cur t (0, 0))) (hs : cur.size = cells.size) (hi : (P.info? ty).map (·.size) = some cells.size) (h1 : cells.all (·.oneCell') = true)
    (h : ∀ w' : World, w'.heap[b]? = some (.cells cells t (0, 0)) → (∀ k, k ≠ b → w'.heap[k]? = w.heap[k]?) → w'.os = w.os ∧ w'.tape = w.tape ∧ w'.output = w.output ∧ w'.heap.size = w.heap.size → wpList P ops Q rest (a.put op.dst undef) w') :
    wpList P ops Q (op :: rest) a w := by
  refine wpList_store_mid hgd ty x y ho b 0 cells hx hy (fun j hj => ?_) hi h1 (h _ ?_ (fun k hk => setCells_far _ _ k hk) (setCells_same _ _ _ _))
  · rw [Nat.zero_add]
    refine ⟨?_, ?_⟩
    · rw [blk_cell hb j, Array.getElem?_eq_getElem (by omega)]
      rfl
    · simp [World.frozen?, hb]
  · obtain ⟨cur', e1, e2, e3⟩ := setCells_row cells.toList 0 w cur hb (by simp; omega)
    rw [e1]
    have : cur'.toList = cells.toList := by rw [e3]; simp [hs]
    have : cur' = cells := Array.toList_inj.1 this
    rw [this]
end
theorem own_keep {w w' : World} {base : Nat} {e : TypeId} {size : Nat} {v : Value} {n : Nat} {xs : List Value} (h : w.ownsRow base e size v n xs) (hk : ∀ k, base ≤ k → w'.heap[k]? = w.heap[k]?) : w'.ownsRow base e size v n xs := by
  obtain ⟨h1, h2⟩ := h
  refine ⟨h1, ?_⟩
  rcases h2 with h2 | ⟨g, cap, cur, hv, hg, hh, r⟩
  · exact Or.inl h2
  · exact Or.inr ⟨g, cap, cur, hv, hg, by rw [hk g hg]; exact hh, r⟩
theorem R_keep {k : IntKind} {e : Nat} {w w' : World} {b : Nat} {v : Value} {xs : List Int} (h : Kd.R (Kd.int k) e w b (fun _ => True) v xs) (hk : ∀ k, b ≤ k → w'.heap[k]? = w.heap[k]?) : Kd.R (Kd.int k) e w' b (fun _ => True) v xs := Kd.R_of_own (own_keep (Kd.own_of_R h) hk) (fun _ _ => trivial)
theorem two_new (w : World) (o1 o2 : Obj) : ((w.alloc o1).alloc o2).heap[w.heap.size]? = some o1 ∧ ((w.alloc o1).alloc o2).heap[w.heap.size + 1]? = some o2 := by
  refine ⟨blk_alloc (World.alloc_heap_new w o1) o2, ?_⟩
  have := World.alloc_heap_new (w.alloc o1) o2
  rwa [World.size_alloc] at this
set_option maxHeartbeats 4000000 in
set_option maxRecDepth 100000 in
theorem key15.calls (k : Nat) (s : Int) (n e d n2 e2 : List Int) (w : World) (hs0 : 0 ≤ s) (hs1 : s < 256) (h : latchkeyhand12_rsa.f k s = some (n, e, d)) (hn : latchkeyref01_Nat.f k n = some n2) (he : latchkeyref01_Nat.f k e = some e2) :
    Calls Try.prog 19 #[.agg #[.int .u8 15, .int .u8 s]] w fun x w' => ∃ A1 c1 A2 c2 m, x = .returned (.agg #[.int .u8 2, .int .i64 0, .slice none 0 0, .slice none 0 0, .bool false, .slice A1 n2.length c1, .slice A2 e2.length c2]) ∧
      Kd.R (Kd.int .u64) 61 w' w.heap.size (fun _ => True) (.slice A1 n2.length c1) n2 ∧ Kd.R (Kd.int .u64) 61 w' m (fun _ => True) (.slice A2 e2.length c2) e2 ∧ (∀ g, (Value.slice A1 n2.length c1).ownBlock = some g → g < m) ∧ w.heap.size ≤ m ∧ Below w.heap.size w w' := by
  have H1 := Aside0.mk h
  have H2 := Aside0.mk hn
  have H3 := Aside0.mk he
  have H4 := Aside0.mk (show latchkeyhand12_Signer_Curve.f 15 s = some (-1) from rfl)
  clear h hn he
  go_enter Try.func19, Try.ntmps19
  go_wp2_with (first
    | (go_at_call 33; (with_reducible refine (latchkeyhand12_Signer_Curve.calls 15 s (-1) _ H4.out).mono ?_); rintro e0 w0 ⟨rfl, hb⟩; have HB0 := Aside0.mk hb; clear hb; have hc0 : w0.cell? ⟨w.heap.size, 1, none⟩ = some (.int .u8 s) := (blk_cell ((HB0.out.block w.heap.size (by simp; omega)).trans (two_new w _ _).1) 1).trans rfl; have BK0 := Aside0.mk ((HB0.out.block (w.heap.size + 1) (by simp)).trans (two_new w _ _).2))
    | (go_at_call 47; (with_reducible refine (latchkeyhand12_rsa.calls k s n e d _ H1.out).mono ?_); rintro e0 w1 ⟨v1, v2, v3, rfl, ho1, ho2, ho3, hb⟩; obtain ⟨A1, c1, rfl⟩ := Kd.R_slice ho1; obtain ⟨A2, c2, rfl⟩ := Kd.R_slice ho2; have HC1 := Aside0.mk (Kd.R_reads' ho1).2.2; have hc1 := (Kd.R_reads' ho1).2.1; have HC2 := Aside0.mk (Kd.R_reads' ho2).2.2; have hc2 := (Kd.R_reads' ho2).2.1; have HB1 := Aside0.mk hb; clear ho1 ho2 ho3 hb)
    | (go_at_call 26; (with_reducible refine (latchkeyref01_Nat.calls k A1 c1 n n2 _ ?s0 hc1 H2.out).mono ?_); (case s0 => exact (by repeat (first | with_reducible exact Aside0.out (by assumption) | with_reducible refine Kd.C_alloc ?_ _ | with_reducible refine Kd.C_drewN ?_ _ | with_reducible refine Kd.C_drew ?_ | refine Kd.C_below ?_ (Aside0.out (by assumption))))); rintro e0 w3 ⟨v, rfl, ho, hb⟩; obtain ⟨A3, c3, rfl⟩ := Kd.R_slice ho; have HO3 := Aside0.mk ho; have HB3 := Aside0.mk hb; clear ho hb)
    | (go_at_call 26; (with_reducible refine (latchkeyref01_Nat.calls k A2 c2 e e2 _ ?s0 hc2 H3.out).mono ?_); (case s0 => exact (by repeat (first | with_reducible exact Aside0.out (by assumption) | with_reducible refine Kd.C_alloc ?_ _ | with_reducible refine Kd.C_drewN ?_ _ | with_reducible refine Kd.C_drew ?_ | refine Kd.C_below ?_ (Aside0.out (by assumption))))); rintro e0 w4 ⟨v, rfl, ho, hb⟩; obtain ⟨A4, c4, rfl⟩ := Kd.R_slice ho; have HO4 := Aside0.mk ho; have HB4 := Aside0.mk hb; have BK4 := Aside0.mk (blk_below (blk_below (blk_below BK0.out HB1.out) HB3.out) hb); clear ho hb)
    | ((with_reducible refine gate_store (t := 49) (p := 2) rfl ?_); refine store_block rfl rfl rfl rfl BK4.out rfl (by kernel_rfl) (by simp [Value.oneCell']) ?_; intro w5 hk5 hf5 hs5; have BK5 := Aside0.mk hk5; have HF5 := Aside0.mk hf5; have HS5 := Aside0.mk hs5; clear hk5 hf5 hs5))
  (try simp only [Exit.inBlock, Exit.then])
  refine bodyPost_ret (results_single rfl (.cell _ _ _ _ _ rfl BK5.out Try.underlying49 rfl (by kernel_rfl) .nil)) rfl ?_
  obtain ⟨hs1, hs2, hs3, hs4⟩ := HS5.out
  have b1 := HB0.out.size
  have b2 := HB1.out.size
  have b3 := HB3.out.size
  have b4 := HB4.out.size
  simp at b1
  refine ⟨A3, c3, A4, c4, w3.heap.size, rfl, Kd.R_lower (R_keep (Kd.R_below HO3.out HB4.out) (fun k hk => HF5.out k (by omega))) (by omega), R_keep HO4.out (fun k hk => HF5.out k (by omega)), R_block_lt HO3.out, by omega, ?_⟩
  have hB4 : Below w.heap.size w w4 := (by repeat (first | with_reducible exact Below.refl _ _ | with_reducible exact Aside0.out (by assumption) | with_reducible refine below_alloc ?_ _ | with_reducible refine pw_below_drewN ?_ _ | with_reducible refine below_drew1 ?_ | refine below_step ?_ (Aside0.out (by assumption))))
  exact ⟨hs1.trans hB4.os, hs2.trans hB4.tape, hs3.trans hB4.output, by rw [hs4]; exact hB4.size, fun k hk => (HF5.out k (by omega)).trans (hB4.block k hk)⟩
theorem blk_drew {w : World} {g : Nat} {o : Obj} (h : w.heap[g]? = some o) : w.drew.heap[g]? = some o := h
theorem blk_frozen {w : World} {g : Nat} {t : TypeId} {cs : Array Value} (h : w.heap[g]? = some (.cells cs t (0, 0))) (i : Nat) : w.frozen? ⟨g, i, none⟩ = false := by simp [World.frozen?, h]
theorem below_store {w w' : World} {b : Nat} (hf : ∀ k, k ≠ b → w'.heap[k]? = w.heap[k]?) (hs : w'.os = w.os ∧ w'.tape = w.tape ∧ w'.output = w.output ∧ w'.heap.size = w.heap.size) {B : Nat} (hb : B ≤ b) : Below B w w' := ⟨hs.1, hs.2.1, hs.2.2.1, by rw [hs.2.2.2]; exact Nat.le_refl _, fun k hk => hf k (by omega)⟩
theorem key15b.calls (k : Nat) (s : Int) (n e d n2 e2 : List Int) (w : World) (hp : 0 < n2.length) (hs0 : 0 ≤ s) (hs1 : s < 256) (h : latchkeyhand12_rsa.f k s = some (n, e, d)) (hn : latchkeyref01_Nat.f k n = some n2) (he : latchkeyref01_Nat.f k e = some e2) :
    Calls Try.prog 19 #[.agg #[.int .u8 15, .int .u8 s]] w fun x w' => ∃ g c1 A2 c2 m, x = .returned (.agg #[.int .u8 2, .int .i64 0, .slice none 0 0, .slice none 0 0, .bool false, .slice (some ⟨g, 0, none⟩) n2.length c1, .slice A2 e2.length c2]) ∧
      Kd.R (Kd.int .u64) 61 w' w.heap.size (fun _ => True) (.slice (some ⟨g, 0, none⟩) n2.length c1) n2 ∧ Kd.R (Kd.int .u64) 61 w' m (fun _ => True) (.slice A2 e2.length c2) e2 ∧ w.heap.size ≤ g ∧ g < m ∧ Below w.heap.size w w' := by
  refine (key15.calls k s n e d n2 e2 w hs0 hs1 h hn he).mono ?_
  rintro x w' ⟨A1, c1, A2, c2, m, rfl, h1, h2, h3, h4, h5⟩
  have h' := (Kd.own_of_R h1).2
  rcases h' with ⟨e1, e2⟩ | ⟨g, cap, cur, e1, e2, _⟩
  · injection e1 with _ e3
    omega
  · injection e1 with e3 _ _
    subst e3
    exact ⟨g, c1, A2, c2, m, rfl, h1, h2, e2, h3 g rfl, h5⟩
end Go.Proofs.Ytgnaaaliadiekaa.B
