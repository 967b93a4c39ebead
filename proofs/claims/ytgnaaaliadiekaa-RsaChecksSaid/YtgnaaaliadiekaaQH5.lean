/- RsaPads: layer 9's Awake, the law, and how an array of whole numbers is opened. -/
import Derived.Test.YtgnaaaliadiekaaBx0
import Derived.Test.YtgnaaaliadiekaaBx79
import Derived.Test.YtgnaaaliadiekaaQH4
import Derived.Test.YtgnaaaliadiekaaQA5
namespace Go.Proofs.Ytgnaaaliadiekaa.B
open Go.RowKit Go.Proofs.Ytgnaaaliadiekaa.Q Go.Proofs.YtgnaaaliadiekaaW.PrintWords Go.Proofs.YtgnaaaliadiekaaW.PrintLast Go.Proofs.YtgnaaaliadiekaaW.PrintMore
set_option linter.unusedVariables false
set_option linter.unusedSimpArgs false
theorem mul_one_ev (n : Nat) (h : n ≤ 8192) : bits_Mul.f 1 n = some (0, (n : Int)) := by
  have := Mul64_ev 1 n (by omega) (by omega)
  unfold bits_Mul.f
  rw [show ((1 : Nat) : Int) = 1 from rfl] at this
  rw [this]
  simp only [Option.bind_some, Nat.one_mul]
  rw [Nat.div_eq_of_lt (by omega), Nat.mod_eq_of_lt (by omega)]
  rfl
theorem rsa_Pad.calls2 (size : Int) (hs ys : List Int) (X : Array Value) (w : World) (hl : hs.length = 32) (hX : X = (hs.map (Value.int .u8)).toArray) (hy : padOf size hs = ys) :
    Calls Try.prog 17 #[.int .i64 size, .agg X] w fun e w' => ∃ v, e = .returned v ∧ Kd.R (Kd.int .u8) 5 w' w.heap.size (fun _ => True) v ys ∧ Below w.heap.size w w' := by
  subst hX hy
  exact rsa_Pad.calls size hs w hl mul_one_ev
theorem ref09_Pad.calls2 (size : Int) (hs ys : List Int) (X : Array Value) (w : World) (hl : hs.length = 32) (hX : X = (hs.map (Value.int .u8)).toArray) (hy : padOf size hs = ys) :
    Calls Try.prog 18 #[.int .i64 size, .agg X] w fun e w' => ∃ v, e = .returned v ∧ Kd.R (Kd.int .u8) 5 w' w.heap.size (fun _ => True) v ys ∧ Below w.heap.size w w' := by
  subst hX hy
  exact ref09_Pad.calls size hs w hl
theorem range_block {w : World} {b : Nat} {L : List Value} {t : TypeId} (h : w.heap[b]? = some (.cells L.toArray t (0, 0))) : w.rangeAt b 0 L := fun j v hv => by
  rw [cell_of_row w b (0 + j) _ _ _ h, Nat.zero_add]
  simpa using hv
theorem range_step {w w' : World} {b o : Nat} {cs : List Value} (h : w.rangeAt b o cs) (hb : Below w.heap.size w w') : w'.rangeAt b o cs := fun j v hv => (hb.cell (World.block_lt_of_cell? w _ (h j v hv))).trans (h j v hv)
def awP : List Int := padOf 62 (1 :: List.replicate 31 0)
theorem awP_len : awP.length = 62 := by decide
theorem R_slice_len {k : IntKind} {e : Nat} {w : World} {b n : Nat} {ok : Nat → Prop} {v : Value} {xs : List Int} (h : Kd.R (Kd.int k) e w b ok v xs) (hn : xs.length = n) : ∃ A c, v = .slice A n c := by
  subst hn
  exact Kd.R_slice h
theorem R_slice_own {k : IntKind} {e : Nat} {w : World} {b n : Nat} {ok : Nat → Prop} {v : Value} {xs : List Int} (h : Kd.R (Kd.int k) e w b ok v xs) (hn : xs.length = n) (hp : 0 < n) : ∃ g c, v = .slice (some ⟨g, 0, none⟩) n c ∧ ∀ i : Nat, i < n → w.cell? ⟨g, i, none⟩ = some (.int k (rdOf 0 xs i)) := by
  have h' := Kd.own_of_R h
  rcases h'.2 with ⟨rfl, e⟩ | ⟨g, cap, cur, rfl, _⟩
  · omega
  · refine ⟨g, cap, by rw [hn], fun i hi => ?_⟩
    exact (Kd.R_cell 0 h i (by omega) (by omega)).1
set_option maxHeartbeats 4000000 in
set_option maxRecDepth 100000 in
theorem law09_Awake.calls (w : World) :
    Calls Try.prog 16 #[] w fun e w' => e = .returned (.bool true) ∧ Below w.heap.size w w' := by
  go_enter Try.func16, Try.ntmps16
  go_wp2_with (first
    | (go_at_call 17; (with_reducible refine (rsa_Pad.calls2 62 (1 :: List.replicate 31 0) awP _ _ rfl ?hX rfl).mono ?_); (case hX => rfl); rintro e w1 ⟨v, rfl, ho, hb⟩; obtain ⟨g, c1, rfl, hC⟩ := R_slice_own ho awP_len (by decide); have k1 : w1.cell? ⟨g, 1, none⟩ = some (.int .u8 1) := hC 1 (by decide); have k9 : w1.cell? ⟨g, 9, none⟩ = some (.int .u8 255) := hC 9 (by decide); have k10 : w1.cell? ⟨g, 10, none⟩ = some (.int .u8 0) := hC 10 (by decide); have k30 : w1.cell? ⟨g, 30, none⟩ = some (.int .u8 1) := hC 30 (by decide); have HB1 := Aside0.mk hb; clear ho hb hC)
    | (go_at_call 17; (with_reducible refine (rsa_Pad.calls2 61 (List.replicate 32 0) [] _ _ rfl ?hX rfl).mono ?_); (case hX => rfl); rintro e w2 ⟨v, rfl, ho, hb⟩; obtain ⟨A2, c2, rfl⟩ := R_slice_len ho rfl; have HB2 := Aside0.mk hb; clear ho hb))
  go_ret
  exact ⟨rfl, (by repeat (first | with_reducible exact Below.refl _ _ | with_reducible exact Aside0.out (by assumption) | with_reducible refine below_alloc ?_ _ | with_reducible refine pw_below_drewN ?_ _ | with_reducible refine below_drew1 ?_ | refine below_step ?_ (Aside0.out (by assumption))))⟩
set_option maxHeartbeats 4000000 in
set_option maxRecDepth 100000 in
theorem law09_RsaPads.calls (size : Int) (hs : List Int) (w : World) (hl : hs.length = 32) :
    Calls Try.prog 4 #[.int .i64 size, .agg (hs.map (Value.int .u8)).toArray] w fun e w' => e = .returned (.bool true) ∧ Below w.heap.size w w' := by
  obtain ⟨ys, hy⟩ : ∃ ys, padOf size hs = ys := ⟨_, rfl⟩
  have HY := Aside0.mk hy
  have HU := Aside0.mk (show Try.prog.underlying 37 = _ from Try.underlying37)
  obtain ⟨L, hL⟩ : ∃ L, hs.map (Value.int .u8) = L := ⟨_, rfl⟩
  have hLl : L.length = 32 := by rw [← hL, List.length_map, hl]
  have hsz : (Try.prog.info? 37).map (·.size) = some L.length := by rw [hLl]; kernel_rfl
  have HSZ := Aside0.mk hsz
  clear hsz
  rw [hL]
  have HL := Aside0.mk hL
  clear hy hL
  go_enter Try.func4, Try.ntmps4
  go_wp2_with (first
    | (go_at_call 16; (with_reducible refine (law09_Awake.calls _).mono ?_); rintro e w0 ⟨rfl, hb⟩; have HB0 := Aside0.mk hb; clear hb))
  have hrg : w0.rangeAt w.heap.size 0 L := range_step (range_block (World.alloc_heap_new w _)) HB0.out
  have HR := Aside0.mk hrg
  clear hrg
  refine start_ (n := 10) (S := fun w' => w'.rangeAt w.heap.size 0 L) (ds := []) #[false, false, false, false, false, false, false, false, false, false] (by kernel_rfl) rfl rfl ((World.rangeAt_drew _ _ _ _).2 HR.out) (fun hHeld => ?_)
  refine pure_ (i := 0) (N := some 7) (v := ?_) (a' := ?_) #[true, false, false, false, false, false, false, false, false, false] rfl rfl (by kernel_rfl) (fun _ _ _ h => h) (Or.inl ⟨by rfl, ?_⟩) ?_ ?_
  rotate_left
  · intro w'
    go_simp
    with_reducible rfl
  rotate_left
  · simp only [Act.put, List.setIfInBounds_toArray, List.set_cons_zero, List.set_cons_succ, i64_w, i32_w]
    rfl
  refine take_ (i := 1) (N := some 8) (a' := ?_) #[true, true, false, false, false, false, false, false, false, false] rfl rfl (by kernel_rfl) (fun _ _ _ h => h) (yieldsIf_load_mid (by rfl) _ _ rfl _ _ rfl L _ (fun w h => h) HU.out rfl HSZ.out) hHeld ?_ ?_
  rotate_left
  · simp only [Act.put, List.setIfInBounds_toArray, List.set_cons_zero, List.set_cons_succ, i64_w, i32_w]
    rfl
  refine pure_ (i := 4) (N := some 11) (v := ?_) (a' := ?_) #[true, true, false, false, true, false, false, false, false, false] rfl rfl (by kernel_rfl) (fun _ _ _ h => h) (Or.inl ⟨by rfl, ?_⟩) ?_ ?_
  rotate_left
  · intro w'
    go_simp
    with_reducible rfl
  rotate_left
  · simp only [Act.put, List.setIfInBounds_toArray, List.set_cons_zero, List.set_cons_succ, i64_w, i32_w]
    rfl
  refine take_ (i := 5) (N := some 12) (a' := ?_) #[true, true, false, false, true, true, false, false, false, false] rfl rfl (by kernel_rfl) (fun _ _ _ h => h) (yieldsIf_load_mid (by rfl) _ _ rfl _ _ rfl L _ (fun w h => h) HU.out rfl HSZ.out) hHeld ?_ ?_
  rotate_left
  · simp only [Act.put, List.setIfInBounds_toArray, List.set_cons_zero, List.set_cons_succ, i64_w, i32_w]
    rfl
  refine one_ (i := 2) (N := some 9) #[true, true, true, false, true, true, false, false, false, false] rfl rfl (by kernel_rfl) (by decide) (fun K hK => ?_)
  refine goes_ Try.func17 (by kernel_rfl) rfl #[.int .i64 size, .agg L.toArray] (by rfl) rfl rfl (by simp only [List.map_toArray, List.map_cons, List.map_nil]; rfl) ?_
  refine (rsa_Pad.calls2 size hs ys L.toArray _ hl (by rw [HL.out]) HY.out).mono ?_
  rintro e w1 ⟨v1, rfl, ho, hb⟩
  refine ⟨_, rfl, ?_⟩
  have HO1 := Aside0.mk ho
  have HB1 := Aside0.mk hb
  clear ho hb
  refine hK.out _ _ (by repeat (first | with_reducible exact Aside0.out (by assumption) | with_reducible refine World.rangeAt_alloc ?_ _ | with_reducible refine (World.rangeAt_drew _ _ _ _).2 ?_ | refine range_step ?_ (Aside0.out (by assumption)))) (fun hHeld => ?_)
  clear hK K
  refine norm_ (a' := ?_) ?_ ?_
  rotate_left
  · show Act.put _ (some 9) _ = _
    simp only [Act.put, List.setIfInBounds_toArray, List.set_cons_zero, List.set_cons_succ, i64_w, i32_w]
    rfl
  refine two_ (i := 3) (j := 6) (Ni := some 10) (Nj := some 13) #[true, true, true, true, true, true, false, false, false, false] #[true, true, true, false, true, true, true, false, false, false] rfl rfl rfl rfl (by kernel_rfl) (by decide) (by decide) (fun K hK => ?_) (fun K hK => ?_)
  · skip
    have hcv := own_string (P := Try.prog) Try.underlying38 Try.underlying5 Try.underlying9 (Kd.own_of_R HO1.out)
    refine value_ (w1 := ?_) (v := ?_) (by rfl) rfl ?_ ?_
    rotate_left 2
    · go_simp
      constructor
      · rfl
      · rfl
    clear hcv
    refine hK.out _ _ hHeld (fun hHeld => ?_)
    clear hK K
    refine norm_ (a' := ?_) ?_ ?_
    rotate_left
    · show Act.put _ (some 10) _ = _
      simp only [Act.put, List.setIfInBounds_toArray, List.set_cons_zero, List.set_cons_succ, i64_w, i32_w]
      rfl
    refine one_ (i := 6) (N := some 13) #[true, true, true, true, true, true, true, false, false, false] rfl rfl (by kernel_rfl) (by decide) (fun K hK => ?_)
    refine goes_ Try.func18 (by kernel_rfl) rfl #[.int .i64 size, .agg L.toArray] (by rfl) rfl rfl (by simp only [List.map_toArray, List.map_cons, List.map_nil]; rfl) ?_
    refine (ref09_Pad.calls2 size hs ys L.toArray _ hl (by rw [HL.out]) HY.out).mono ?_
    rintro e w2 ⟨v2, rfl, ho, hb⟩
    refine ⟨_, rfl, ?_⟩
    have HO2 := Aside0.mk ho
    have HB2 := Aside0.mk hb
    have HO1w := Aside0.mk (Kd.R_below HO1.out hb)
    clear ho hb
    refine hK.out _ _ (by repeat (first | with_reducible exact Aside0.out (by assumption) | with_reducible refine World.rangeAt_alloc ?_ _ | with_reducible refine (World.rangeAt_drew _ _ _ _).2 ?_ | refine range_step ?_ (Aside0.out (by assumption)))) (fun hHeld => ?_)
    clear hK K
    refine norm_ (a' := ?_) ?_ ?_
    rotate_left
    · show Act.put _ (some 13) _ = _
      simp only [Act.put, List.setIfInBounds_toArray, List.set_cons_zero, List.set_cons_succ, i64_w, i32_w]
      rfl
    refine one_ (i := 7) (N := some 14) #[true, true, true, true, true, true, true, true, false, false] rfl rfl (by kernel_rfl) (by decide) (fun K hK => ?_)
    have hcv := own_string (P := Try.prog) Try.underlying38 Try.underlying5 Try.underlying9 (Kd.own_of_R HO2.out)
    refine value_ (w1 := ?_) (v := ?_) (by rfl) rfl ?_ ?_
    rotate_left 2
    · go_simp
      constructor
      · rfl
      · rfl
    clear hcv
    refine hK.out _ _ hHeld (fun hHeld => ?_)
    clear hK K
    refine norm_ (a' := ?_) ?_ ?_
    rotate_left
    · show Act.put _ (some 14) _ = _
      simp only [Act.put, List.setIfInBounds_toArray, List.set_cons_zero, List.set_cons_succ, i64_w, i32_w]
      rfl
    refine pure_ (i := 8) (N := some 15) (v := ?_) (a' := ?_) #[true, true, true, true, true, true, true, true, true, false] rfl rfl (by kernel_rfl) (fun _ _ _ h => h) (Or.inl ⟨by rfl, ?_⟩) ?_ ?_
    rotate_left
    · intro w'
      go_simp
      with_reducible rfl
    rotate_left
    · simp only [Act.put, List.setIfInBounds_toArray, List.set_cons_zero, List.set_cons_succ, i64_w, i32_w]
      rfl
    refine pure_ (i := 9) (N := some 4) (v := ?_) (a' := ?_) #[true, true, true, true, true, true, true, true, true, true] rfl rfl (by kernel_rfl) (fun _ _ _ h => h) (Or.inl ⟨by rfl, ?_⟩) ?_ ?_
    rotate_left
    · intro w'
      go_simp
      with_reducible rfl
    rotate_left
    · simp only [Act.put, List.setIfInBounds_toArray, List.set_cons_zero, List.set_cons_succ, i64_w, i32_w]
      rfl
    refine done_ (by kernel_rfl) ?_
    go_wp2
    go_ret
    exact ⟨by simp, (by repeat (first | with_reducible exact Below.refl _ _ | with_reducible exact Aside0.out (by assumption) | with_reducible refine below_alloc ?_ _ | with_reducible refine pw_below_drewN ?_ _ | with_reducible refine below_drew1 ?_ | refine below_step ?_ (Aside0.out (by assumption))))⟩
  · skip
    refine goes_ Try.func18 (by kernel_rfl) rfl #[.int .i64 size, .agg L.toArray] (by rfl) rfl rfl (by simp only [List.map_toArray, List.map_cons, List.map_nil]; rfl) ?_
    refine (ref09_Pad.calls2 size hs ys L.toArray _ hl (by rw [HL.out]) HY.out).mono ?_
    rintro e w2 ⟨v2, rfl, ho, hb⟩
    refine ⟨_, rfl, ?_⟩
    have HO2 := Aside0.mk ho
    have HB2 := Aside0.mk hb
    have HO1w := Aside0.mk (Kd.R_below HO1.out hb)
    clear ho hb
    refine hK.out _ _ (by repeat (first | with_reducible exact Aside0.out (by assumption) | with_reducible refine World.rangeAt_alloc ?_ _ | with_reducible refine (World.rangeAt_drew _ _ _ _).2 ?_ | refine range_step ?_ (Aside0.out (by assumption)))) (fun hHeld => ?_)
    clear hK K
    refine norm_ (a' := ?_) ?_ ?_
    rotate_left
    · show Act.put _ (some 13) _ = _
      simp only [Act.put, List.setIfInBounds_toArray, List.set_cons_zero, List.set_cons_succ, i64_w, i32_w]
      rfl
    refine two_ (i := 3) (j := 7) (Ni := some 10) (Nj := some 14) #[true, true, true, true, true, true, true, false, false, false] #[true, true, true, false, true, true, true, true, false, false] rfl rfl rfl rfl (by kernel_rfl) (by decide) (by decide) (fun K hK => ?_) (fun K hK => ?_)
    · skip
      have hcv := own_string (P := Try.prog) Try.underlying38 Try.underlying5 Try.underlying9 (Kd.own_of_R HO1w.out)
      refine value_ (w1 := ?_) (v := ?_) (by rfl) rfl ?_ ?_
      rotate_left 2
      · go_simp
        constructor
        · rfl
        · rfl
      clear hcv
      refine hK.out _ _ hHeld (fun hHeld => ?_)
      clear hK K
      refine norm_ (a' := ?_) ?_ ?_
      rotate_left
      · show Act.put _ (some 10) _ = _
        simp only [Act.put, List.setIfInBounds_toArray, List.set_cons_zero, List.set_cons_succ, i64_w, i32_w]
        rfl
      refine one_ (i := 7) (N := some 14) #[true, true, true, true, true, true, true, true, false, false] rfl rfl (by kernel_rfl) (by decide) (fun K hK => ?_)
      have hcv := own_string (P := Try.prog) Try.underlying38 Try.underlying5 Try.underlying9 (Kd.own_of_R HO2.out)
      refine value_ (w1 := ?_) (v := ?_) (by rfl) rfl ?_ ?_
      rotate_left 2
      · go_simp
        constructor
        · rfl
        · rfl
      clear hcv
      refine hK.out _ _ hHeld (fun hHeld => ?_)
      clear hK K
      refine norm_ (a' := ?_) ?_ ?_
      rotate_left
      · show Act.put _ (some 14) _ = _
        simp only [Act.put, List.setIfInBounds_toArray, List.set_cons_zero, List.set_cons_succ, i64_w, i32_w]
        rfl
      refine pure_ (i := 8) (N := some 15) (v := ?_) (a' := ?_) #[true, true, true, true, true, true, true, true, true, false] rfl rfl (by kernel_rfl) (fun _ _ _ h => h) (Or.inl ⟨by rfl, ?_⟩) ?_ ?_
      rotate_left
      · intro w'
        go_simp
        with_reducible rfl
      rotate_left
      · simp only [Act.put, List.setIfInBounds_toArray, List.set_cons_zero, List.set_cons_succ, i64_w, i32_w]
        rfl
      refine pure_ (i := 9) (N := some 4) (v := ?_) (a' := ?_) #[true, true, true, true, true, true, true, true, true, true] rfl rfl (by kernel_rfl) (fun _ _ _ h => h) (Or.inl ⟨by rfl, ?_⟩) ?_ ?_
      rotate_left
      · intro w'
        go_simp
        with_reducible rfl
      rotate_left
      · simp only [Act.put, List.setIfInBounds_toArray, List.set_cons_zero, List.set_cons_succ, i64_w, i32_w]
        rfl
      refine done_ (by kernel_rfl) ?_
      go_wp2
      go_ret
      exact ⟨by simp, (by repeat (first | with_reducible exact Below.refl _ _ | with_reducible exact Aside0.out (by assumption) | with_reducible refine below_alloc ?_ _ | with_reducible refine pw_below_drewN ?_ _ | with_reducible refine below_drew1 ?_ | refine below_step ?_ (Aside0.out (by assumption))))⟩
    · skip
      have hcv := own_string (P := Try.prog) Try.underlying38 Try.underlying5 Try.underlying9 (Kd.own_of_R HO2.out)
      refine value_ (w1 := ?_) (v := ?_) (by rfl) rfl ?_ ?_
      rotate_left 2
      · go_simp
        constructor
        · rfl
        · rfl
      clear hcv
      refine hK.out _ _ hHeld (fun hHeld => ?_)
      clear hK K
      refine norm_ (a' := ?_) ?_ ?_
      rotate_left
      · show Act.put _ (some 14) _ = _
        simp only [Act.put, List.setIfInBounds_toArray, List.set_cons_zero, List.set_cons_succ, i64_w, i32_w]
        rfl
      refine one_ (i := 3) (N := some 10) #[true, true, true, true, true, true, true, true, false, false] rfl rfl (by kernel_rfl) (by decide) (fun K hK => ?_)
      have hcv := own_string (P := Try.prog) Try.underlying38 Try.underlying5 Try.underlying9 (Kd.own_of_R HO1w.out)
      refine value_ (w1 := ?_) (v := ?_) (by rfl) rfl ?_ ?_
      rotate_left 2
      · go_simp
        constructor
        · rfl
        · rfl
      clear hcv
      refine hK.out _ _ hHeld (fun hHeld => ?_)
      clear hK K
      refine norm_ (a' := ?_) ?_ ?_
      rotate_left
      · show Act.put _ (some 10) _ = _
        simp only [Act.put, List.setIfInBounds_toArray, List.set_cons_zero, List.set_cons_succ, i64_w, i32_w]
        rfl
      refine pure_ (i := 8) (N := some 15) (v := ?_) (a' := ?_) #[true, true, true, true, true, true, true, true, true, false] rfl rfl (by kernel_rfl) (fun _ _ _ h => h) (Or.inl ⟨by rfl, ?_⟩) ?_ ?_
      rotate_left
      · intro w'
        go_simp
        with_reducible rfl
      rotate_left
      · simp only [Act.put, List.setIfInBounds_toArray, List.set_cons_zero, List.set_cons_succ, i64_w, i32_w]
        rfl
      refine pure_ (i := 9) (N := some 4) (v := ?_) (a' := ?_) #[true, true, true, true, true, true, true, true, true, true] rfl rfl (by kernel_rfl) (fun _ _ _ h => h) (Or.inl ⟨by rfl, ?_⟩) ?_ ?_
      rotate_left
      · intro w'
        go_simp
        with_reducible rfl
      rotate_left
      · simp only [Act.put, List.setIfInBounds_toArray, List.set_cons_zero, List.set_cons_succ, i64_w, i32_w]
        rfl
      refine done_ (by kernel_rfl) ?_
      go_wp2
      go_ret
      exact ⟨by simp, (by repeat (first | with_reducible exact Below.refl _ _ | with_reducible exact Aside0.out (by assumption) | with_reducible refine below_alloc ?_ _ | with_reducible refine pw_below_drewN ?_ _ | with_reducible refine below_drew1 ?_ | refine below_step ?_ (Aside0.out (by assumption))))⟩
end Go.Proofs.Ytgnaaaliadiekaa.B
