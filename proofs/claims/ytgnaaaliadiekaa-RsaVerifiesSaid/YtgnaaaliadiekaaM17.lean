/- A part of the proof (merged by pack.py, a program of this session: what the row's proof names). -/
import Derived.Test.YtgnaaaliadiekaaM4
import Derived.Test.YtgnaaaliadiekaaM5
import Derived.Test.YtgnaaaliadiekaaM8
import Derived.Test.YtgnaaaliadiekaaM9
import Derived.Test.YtgnaaaliadiekaaM10
import Derived.Test.YtgnaaaliadiekaaM16
import Derived.Test.YtgnaaaliadiekaaM0
section
namespace Go.Proofs.Ytgnaaaliadiekaa.B
open Go.RowKit Go.Proofs.Ytgnaaaliadiekaa.Q Go.Proofs.YtgnaaaliadiekaaW.PrintWords Go.Proofs.YtgnaaaliadiekaaW.PrintLast Go.Proofs.YtgnaaaliadiekaaW.PrintMore
set_option linter.unusedVariables false
set_option linter.unusedSimpArgs false
theorem mul_one_ev (n : Nat) (h : n ≤ 8192) : bits_Mul.f 1 n = some (0, (n : Int)) := by
 have := yhq 1 n (by omega) (by omega)
 unfold bits_Mul.f
 rw [show ((1 : Nat) : Int) = 1 from rfl] at this
 rw [this]
 simp only [Option.bind_some, Nat.one_mul]
 rw [Nat.div_eq_of_lt (by omega), Nat.mod_eq_of_lt (by omega)]
 rfl
theorem yhu.ydy (size : Int) (hs ys : List Int) (X : Array Value) (w : World) (hl : hs.length = 32) (hX : X = (hs.map (Value.int .u8)).toArray) (hy : yfo size hs = ys) :
 Calls Try.prog 17 #[.int .i64 size, .agg X] w fun e w' => ∃ v, e = .returned v ∧ Kd.R (Kd.int .u8) 5 w' w.heap.size (fun _ => True) v ys ∧ Below w.heap.size w w' := by
 subst hX hy
 exact yhu.calls size hs w hl mul_one_ev
theorem ygq.ydy (size : Int) (hs ys : List Int) (X : Array Value) (w : World) (hl : hs.length = 32) (hX : X = (hs.map (Value.int .u8)).toArray) (hy : yfo size hs = ys) :
 Calls Try.prog 18 #[.int .i64 size, .agg X] w fun e w' => ∃ v, e = .returned v ∧ Kd.R (Kd.int .u8) 5 w' w.heap.size (fun _ => True) v ys ∧ Below w.heap.size w w' := by
 subst hX hy
 exact ygq.calls size hs w hl
theorem ycu {w : World} {b : Nat} {L : List Value} {t : TypeId} (h : w.heap[b]? = some (.cells L.toArray t (0, 0))) : w.rangeAt b 0 L := fun j v hv => by
 rw [cell_of_row w b (0 + j) _ _ _ h, Nat.zero_add]
 simpa using hv
theorem range_step {w w' : World} {b o : Nat} {cs : List Value} (h : w.rangeAt b o cs) (hb : Below w.heap.size w w') : w'.rangeAt b o cs := fun j v hv => (hb.cell (World.block_lt_of_cell? w _ (h j v hv))).trans (h j v hv)
def awP : List Int := yfo 62 (1 :: List.replicate 31 0)
theorem awP_len : awP.length = 62 := by decide
theorem R_slice_len {k : IntKind} {e : Nat} {w : World} {b n : Nat} {ok : Nat → Prop} {v : Value} {xs : List Int} (h : Kd.R (Kd.int k) e w b ok v xs) (hn : xs.length = n) : ∃ A c, v = .slice A n c := by
 subst hn
 exact Kd.ybc h
theorem R_slice_own {k : IntKind} {e : Nat} {w : World} {b n : Nat} {ok : Nat → Prop} {v : Value} {xs : List Int} (h : Kd.R (Kd.int k) e w b ok v xs) (hn : xs.length = n) (hp : 0 < n) : ∃ g c, v = .slice (some ⟨g, 0, none⟩) n c ∧ ∀ i : Nat, i < n → w.cell? ⟨g, i, none⟩ = some (.int k (rdOf 0 xs i)) := by
 have h' := Kd.yeo h
 rcases h'.2 with ⟨rfl, e⟩ | ⟨g, cap, cur, rfl, _⟩
 · omega
 · refine ⟨g, cap, by rw [hn], fun i hi => ?_⟩
   exact (Kd.R_cell 0 h i (by omega) (by omega)).1
set_option maxHeartbeats 4000000 in
set_option maxRecDepth 100000 in
theorem ydd.calls (w : World) :
 Calls Try.prog 16 #[] w fun e w' => e = .returned (.bool true) ∧ Below w.heap.size w w' := by
 go_enter Try.func16, Try.ntmps16
 go_wp2_with (first
  | (go_at_call 17; (with_reducible refine (yhu.ydy 62 (1 :: List.replicate 31 0) awP _ _ rfl ?hX rfl).mono ?_); (case hX => rfl); rintro e w1 ⟨v, rfl, ho, hb⟩; obtain ⟨g, c1, rfl, hC⟩ := R_slice_own ho awP_len (by decide); have k1 : w1.cell? ⟨g, 1, none⟩ = some (.int .u8 1) := hC 1 (by decide); have k9 : w1.cell? ⟨g, 9, none⟩ = some (.int .u8 255) := hC 9 (by decide); have k10 : w1.cell? ⟨g, 10, none⟩ = some (.int .u8 0) := hC 10 (by decide); have k30 : w1.cell? ⟨g, 30, none⟩ = some (.int .u8 1) := hC 30 (by decide); have HB1 := Aside0.mk hb; clear ho hb hC)
  | (go_at_call 17; (with_reducible refine (yhu.ydy 61 (List.replicate 32 0) [] _ _ rfl ?hX rfl).mono ?_); (case hX => rfl); rintro e w2 ⟨v, rfl, ho, hb⟩; obtain ⟨A2, c2, rfl⟩ := R_slice_len ho rfl; have HB2 := Aside0.mk hb; clear ho hb))
 go_ret
 exact ⟨rfl, Z1_⟩
set_option maxHeartbeats 4000000 in
set_option maxRecDepth 100000 in
theorem law09_RsaPads.calls (size : Int) (hs : List Int) (w : World) (hl : hs.length = 32) :
 Calls Try.prog 4 #[.int .i64 size, .agg (hs.map (Value.int .u8)).toArray] w fun e w' => e = .returned (.bool true) ∧ Below w.heap.size w w' := by
 obtain ⟨ys, hy⟩ : ∃ ys, yfo size hs = ys := ⟨_, rfl⟩
 have HY := Aside0.mk hy
 have HU := Aside0.mk (show Try.prog.underlying 37 = _ from Try.underlying37)
 obtain ⟨L, hL⟩ : ∃ L, hs.map (Value.int .u8) = L := ⟨_, rfl⟩
 have hLl : L.length = 32 := by rw [← hL, List.length_map, hl]
 have hsz : (Try.prog.info? 37).map (·.size) = some L.length := by rw [hLl]; kernel_rfl
 have HSZ := Aside0.mk hsz
 clear hsz
 rw [hL]
 have HL := Aside0.mk hL
 clear hy hL
 go_enter Try.func4, Try.ntmps4
 go_wp2_with (first
  | (go_at_call 16; (with_reducible refine (ydd.calls _).mono ?_); rintro e w0 ⟨rfl, hb⟩; have HB0 := Aside0.mk hb; clear hb))
 have hrg : w0.rangeAt w.heap.size 0 L := range_step (ycu (World.alloc_heap_new w _)) HB0.out
 have HR := Aside0.mk hrg
 clear hrg
 refine yeq (n := 10) (S := fun w' => w'.rangeAt w.heap.size 0 L) (ds := []) Q85_ (by kernel_rfl) rfl rfl ((World.rangeAt_drew _ _ _ _).2 HR.out) (fun hHeld => ?_)
 refine pV 0 7 Q86_ (by kernel_rfl) ?_
 refine take_ (i := 1) (N := some 8) (a' := ?_) Q87_ rfl rfl (by kernel_rfl) (fun _ _ _ h => h) (yieldsIf_load_mid (by rfl) _ _ rfl _ _ rfl L _ (fun w h => h) HU.out rfl HSZ.out) hHeld ?_ ?_
 rotate_left
 · simp only [Act.put, List.setIfInBounds_toArray, List.set_cons_zero, List.set_cons_succ, ydk, yfz]
   rfl
 refine pV 4 11 Q88_ (by kernel_rfl) ?_
 refine take_ (i := 5) (N := some 12) (a' := ?_) Q89_ rfl rfl (by kernel_rfl) (fun _ _ _ h => h) (yieldsIf_load_mid (by rfl) _ _ rfl _ _ rfl L _ (fun w h => h) HU.out rfl HSZ.out) hHeld ?_ ?_
 rotate_left
 · simp only [Act.put, List.setIfInBounds_toArray, List.set_cons_zero, List.set_cons_succ, ydk, yfz]
   rfl
 refine one_ (i := 2) (N := some 9) Q90_ rfl rfl (by kernel_rfl) (by decide) (fun K hK => ?_)
 refine yfa Try.func17 (by kernel_rfl) rfl #[.int .i64 size, .agg L.toArray] (by rfl) rfl rfl (by simp only [List.map_toArray, List.map_cons, List.map_nil]; rfl) ?_
 refine (yhu.ydy size hs ys L.toArray _ hl (by rw [HL.out]) HY.out).mono ?_
 rintro e w1 ⟨v1, rfl, ho, hb⟩
 refine ⟨_, rfl, ?_⟩
 have HO1 := Aside0.mk ho
 have HB1 := Aside0.mk hb
 clear ho hb
 refine hK.out _ _ Z4_ (fun hHeld => ?_)
 clear hK K
 refine pN 9 ?_
 refine two_ (i := 3) (j := 6) (Ni := some 10) (Nj := some 13) Q91_ Q92_ rfl rfl rfl rfl (by kernel_rfl) (by decide) (by decide) (fun K hK => ?_) (fun K hK => ?_)
 · skip
   have hcv := yfl (P := Try.prog) Try.underlying38 Try.underlying5 Try.underlying9 (Kd.yeo HO1.out)
   refine value_ (w1 := ?_) (v := ?_) (by rfl) rfl ?_ ?_
   rotate_left 2
   · go_simp
     constructor
     · rfl
     · rfl
   clear hcv
   refine hK.out _ _ hHeld (fun hHeld => ?_)
   clear hK K
   refine pN 10 ?_
   refine one_ (i := 6) (N := some 13) Q64_ rfl rfl (by kernel_rfl) (by decide) (fun K hK => ?_)
   refine yfa Try.func18 (by kernel_rfl) rfl #[.int .i64 size, .agg L.toArray] (by rfl) rfl rfl (by simp only [List.map_toArray, List.map_cons, List.map_nil]; rfl) ?_
   refine (ygq.ydy size hs ys L.toArray _ hl (by rw [HL.out]) HY.out).mono ?_
   rintro e w2 ⟨v2, rfl, ho, hb⟩
   refine ⟨_, rfl, ?_⟩
   have HO2 := Aside0.mk ho
   have HB2 := Aside0.mk hb
   have HO1w := Aside0.mk (Kd.ycc HO1.out hb)
   clear ho hb
   refine hK.out _ _ Z4_ (fun hHeld => ?_)
   clear hK K
   refine pN 13 ?_
   refine one_ (i := 7) (N := some 14) Q47_ rfl rfl (by kernel_rfl) (by decide) (fun K hK => ?_)
   have hcv := yfl (P := Try.prog) Try.underlying38 Try.underlying5 Try.underlying9 (Kd.yeo HO2.out)
   refine value_ (w1 := ?_) (v := ?_) (by rfl) rfl ?_ ?_
   rotate_left 2
   · go_simp
     constructor
     · rfl
     · rfl
   clear hcv
   refine hK.out _ _ hHeld (fun hHeld => ?_)
   clear hK K
   refine pN 14 ?_
   refine pV 8 15 Q48_ (by kernel_rfl) ?_
   refine pV 9 4 Q49_ (by kernel_rfl) ?_
   refine yfk (by kernel_rfl) ?_
   go_wp2
   go_ret
   exact ⟨by simp, Z1_⟩
 · skip
   refine yfa Try.func18 (by kernel_rfl) rfl #[.int .i64 size, .agg L.toArray] (by rfl) rfl rfl (by simp only [List.map_toArray, List.map_cons, List.map_nil]; rfl) ?_
   refine (ygq.ydy size hs ys L.toArray _ hl (by rw [HL.out]) HY.out).mono ?_
   rintro e w2 ⟨v2, rfl, ho, hb⟩
   refine ⟨_, rfl, ?_⟩
   have HO2 := Aside0.mk ho
   have HB2 := Aside0.mk hb
   have HO1w := Aside0.mk (Kd.ycc HO1.out hb)
   clear ho hb
   refine hK.out _ _ Z4_ (fun hHeld => ?_)
   clear hK K
   refine pN 13 ?_
   refine two_ (i := 3) (j := 7) (Ni := some 10) (Nj := some 14) Q64_ Q93_ rfl rfl rfl rfl (by kernel_rfl) (by decide) (by decide) (fun K hK => ?_) (fun K hK => ?_)
   · skip
     have hcv := yfl (P := Try.prog) Try.underlying38 Try.underlying5 Try.underlying9 (Kd.yeo HO1w.out)
     refine value_ (w1 := ?_) (v := ?_) (by rfl) rfl ?_ ?_
     rotate_left 2
     · go_simp
       constructor
       · rfl
       · rfl
     clear hcv
     refine hK.out _ _ hHeld (fun hHeld => ?_)
     clear hK K
     refine pN 10 ?_
     refine one_ (i := 7) (N := some 14) Q47_ rfl rfl (by kernel_rfl) (by decide) (fun K hK => ?_)
     have hcv := yfl (P := Try.prog) Try.underlying38 Try.underlying5 Try.underlying9 (Kd.yeo HO2.out)
     refine value_ (w1 := ?_) (v := ?_) (by rfl) rfl ?_ ?_
     rotate_left 2
     · go_simp
       constructor
       · rfl
       · rfl
     clear hcv
     refine hK.out _ _ hHeld (fun hHeld => ?_)
     clear hK K
     refine pN 14 ?_
     refine pV 8 15 Q48_ (by kernel_rfl) ?_
     refine pV 9 4 Q49_ (by kernel_rfl) ?_
     refine yfk (by kernel_rfl) ?_
     go_wp2
     go_ret
     exact ⟨by simp, Z1_⟩
   · skip
     have hcv := yfl (P := Try.prog) Try.underlying38 Try.underlying5 Try.underlying9 (Kd.yeo HO2.out)
     refine value_ (w1 := ?_) (v := ?_) (by rfl) rfl ?_ ?_
     rotate_left 2
     · go_simp
       constructor
       · rfl
       · rfl
     clear hcv
     refine hK.out _ _ hHeld (fun hHeld => ?_)
     clear hK K
     refine pN 14 ?_
     refine one_ (i := 3) (N := some 10) Q47_ rfl rfl (by kernel_rfl) (by decide) (fun K hK => ?_)
     have hcv := yfl (P := Try.prog) Try.underlying38 Try.underlying5 Try.underlying9 (Kd.yeo HO1w.out)
     refine value_ (w1 := ?_) (v := ?_) (by rfl) rfl ?_ ?_
     rotate_left 2
     · go_simp
       constructor
       · rfl
       · rfl
     clear hcv
     refine hK.out _ _ hHeld (fun hHeld => ?_)
     clear hK K
     refine pN 10 ?_
     refine pV 8 15 Q48_ (by kernel_rfl) ?_
     refine pV 9 4 Q49_ (by kernel_rfl) ?_
     refine yfk (by kernel_rfl) ?_
     go_wp2
     go_ret
     exact ⟨by simp, Z1_⟩
end Go.Proofs.Ytgnaaaliadiekaa.B
end
section
namespace Go.Proofs.Ytgnaaaliadiekaa.B
open Go.RowKit Go.Proofs.YtgnaaaliadiekaaW.PrintWords Go.Proofs.YtgnaaaliadiekaaW.PrintLast Go.Proofs.YtgnaaaliadiekaaW.PrintMore
attribute [local go_sem] ycj ych ycs ycr ybw ybv yci ycg   -- for this text's walks alone
attribute [local go_sem] yca ybn ybz ybm
set_option linter.unusedVariables false
set_option linter.unusedSimpArgs false
def ydg.f (a0_0 : Int) (a0_1 : Int) : Option (Int) := if (Int.tmod a0_0 16) = 15 then (some (-1)) else (some (wrap64 (Int.tmod a0_0 3)))
set_option maxHeartbeats 8000000 in
set_option maxRecDepth 100000 in
theorem ydg.calls (a0_0 : Int) (a0_1 : Int) (r : Int) (w : World) (h : ydg.f a0_0 a0_1 = some r) :
 Calls Try.prog 33 #[.agg #[.int .u8 a0_0, .int .u8 a0_1]] w fun e w' => e = .returned (.int .i64 r) ∧ Below w.heap.size w w' := by
 have hu42 := Try.underlying42
 have HB := Aside0.mk (Below.refl w.heap.size w)
 have H : (if (Int.tmod a0_0 16) = 15 then (some (-1)) else (some (wrap64 (Int.tmod a0_0 3)))) = some r := h
 clear h
 by_cases c2 : (Int.tmod a0_0 16) = 15
 · rw [if_pos c2] at H
   have c2b0 : ((Int.tmod a0_0 16) == 15) = true := beq_iff_eq.mpr c2
   have c2b1 : ((Int.tmod a0_0 16) != 15) = false := bne_eq_false_iff_eq.mpr c2
   clear c2
   obtain rfl := Option.some.inj H
   go_enter Try.func33, Try.ntmps33
   go_wp2_with (first | ((with_reducible refine ybu (N := 1) rfl ?_); refine ydl ?hg (N := 1) ?hd (cs := #[.int .u8 a0_0, .int .u8 a0_1]) (t := 42) ?hr ?_; (case hd => rfl); (case hg => rfl); (case hr => first | (go_simp; done) | (go_simp; rfl)); intro gb1001 hg w3 hbox hb; have n0_ := Aside0.mk (yai Z7_ hb); have n1_ := Aside0.mk (hbox); have n2_ := Aside0.mk ((by rw [hg]; exact (yaj Z7_) : w.heap.size ≤ gb1001)); have n3_ := Aside0.mk ((by rw [hg]; exact (yaj Z7_) : w.heap.size ≤ gb1001)); clear HB; have HB := n0_; have BK1001 := n1_; have GW1001 := n2_; have GE1001 := n3_; clear n0_ n1_ n2_ n3_; clear hb hbox hg; have hcz4_0 : w3.cell? ⟨gb1001, 0, none⟩ = some (.int .u8 a0_0) := (yaa BK1001.out 0).trans rfl; have hcz4_1 : w3.cell? ⟨gb1001, 1, none⟩ = some (.int .u8 a0_1) := (yaa BK1001.out 1).trans rfl; have hfz4_0 := ybo BK1001.out 0; have hfz4_1 := ybo BK1001.out 1))
   go_ret
   exact ⟨by first | rfl | (simp [yap, yao] <;> rfl) | (simp [*, yap, yao] <;> rfl), by repeat (first | (with_reducible first | exact HB.out | apply yad | apply yab | apply yac | refine ybx ?_ GE1001.out) | exact HB.out)⟩
 · rw [if_neg c2] at H
   have c2b0 : ((Int.tmod a0_0 16) == 15) = false := beq_eq_false_iff_ne.mpr c2
   have c2b1 : ((Int.tmod a0_0 16) != 15) = true := bne_iff_ne.mpr c2
   obtain rfl := Option.some.inj H
   go_enter Try.func33, Try.ntmps33
   go_wp2_with (first | ((with_reducible refine ybu (N := 1) rfl ?_); refine ydl ?hg (N := 1) ?hd (cs := #[.int .u8 a0_0, .int .u8 a0_1]) (t := 42) ?hr ?_; (case hd => rfl); (case hg => rfl); (case hr => first | (go_simp; done) | (go_simp; rfl)); intro gb1001 hg w5 hbox hb; have n0_ := Aside0.mk (yai Z7_ hb); have n1_ := Aside0.mk (hbox); have n2_ := Aside0.mk ((by rw [hg]; exact (yaj Z7_) : w.heap.size ≤ gb1001)); have n3_ := Aside0.mk ((by rw [hg]; exact (yaj Z7_) : w.heap.size ≤ gb1001)); clear HB; have HB := n0_; have BK1001 := n1_; have GW1001 := n2_; have GE1001 := n3_; clear n0_ n1_ n2_ n3_; clear hb hbox hg; have hcz6_0 : w5.cell? ⟨gb1001, 0, none⟩ = some (.int .u8 a0_0) := (yaa BK1001.out 0).trans rfl; have hcz6_1 : w5.cell? ⟨gb1001, 1, none⟩ = some (.int .u8 a0_1) := (yaa BK1001.out 1).trans rfl; have hfz6_0 := ybo BK1001.out 0; have hfz6_1 := ybo BK1001.out 1))
   go_ret
   exact ⟨by first | rfl | (simp [yap, yao] <;> rfl) | (simp [*, yap, yao] <;> rfl), by repeat (first | (with_reducible first | exact HB.out | apply yad | apply yab | apply yac | refine ybx ?_ GE1001.out) | exact HB.out)⟩
end Go.Proofs.Ytgnaaaliadiekaa.B
end
section
namespace Go.Proofs.Ytgnaaaliadiekaa.B
open Go.RowKit Go.Proofs.YtgnaaaliadiekaaW.PrintWords Go.Proofs.YtgnaaaliadiekaaW.PrintLast Go.Proofs.YtgnaaaliadiekaaW.PrintMore
set_option linter.unusedVariables false
set_option linter.unusedSimpArgs false
theorem R_block_lt {k : IntKind} {e : Nat} {w : World} {b : Nat} {ok : Nat → Prop} {v : Value} {xs : List Int} (h : Kd.R (Kd.int k) e w b ok v xs) : ∀ g, v.ownBlock = some g → g < w.heap.size := by
 intro g hg
 have h' := Kd.yeo h
 rcases h'.2 with ⟨rfl, _⟩ | ⟨g', cap, cur, rfl, _, hh, _⟩
 · simp [Value.ownBlock] at hg
 · have : g' = g := by simpa [Value.ownBlock] using hg
   subst this
   exact (Array.getElem?_eq_some_iff.1 hh).1
section
variable {P : Program} {ops : Array Oper} {rest : List Oper} {op : Oper} {a : Act} {Q : Exit → Act → World → Prop}
theorem yee {w : World} (hgd : op.guard = none) {ty : TypeId} {x y : Operand} (ho : op.op = .store ty x y) {b : Nat} {cells cur : Array Value} {t : TypeId} (hx : a.eval x = .pointer (some ⟨b, 0, none⟩)) (hy : a.eval y = .agg cells)
 (hb : w.heap[b]? = some (.cells cur t (0, 0))) (hs : cur.size = cells.size) (hi : (P.info? ty).map (·.size) = some cells.size) (h1 : cells.all (·.oneCell') = true)
 (h : ∀ w' : World, w'.heap[b]? = some (.cells cells t (0, 0)) → (∀ k, k ≠ b → w'.heap[k]? = w.heap[k]?) → w'.os = w.os ∧ w'.tape = w.tape ∧ w'.output = w.output ∧ w'.heap.size = w.heap.size → wpList P ops Q rest (a.put op.dst undef) w') :
 wpList P ops Q (op :: rest) a w := by
 refine wpList_store_mid hgd ty x y ho b 0 cells hx hy (fun j hj => ?_) hi h1 (h _ ?_ (fun k hk => yii _ _ k hk) (yhg _ _ _ _))
 · rw [Nat.zero_add]
   refine ⟨?_, ?_⟩
   · rw [yaa hb j, Array.getElem?_eq_getElem (by omega)]
     rfl
   · simp [World.frozen?, hb]
 · obtain ⟨cur', e1, e2, e3⟩ := yih cells.toList 0 w cur hb (by simp; omega)
   rw [e1]
   have : cur'.toList = cells.toList := by rw [e3]; simp [hs]
   have : cur' = cells := Array.toList_inj.1 this
   rw [this]
end
theorem own_keep {w w' : World} {base : Nat} {e : TypeId} {size : Nat} {v : Value} {n : Nat} {xs : List Value} (h : w.ownsRow base e size v n xs) (hk : ∀ k, base ≤ k → w'.heap[k]? = w.heap[k]?) : w'.ownsRow base e size v n xs := by
 obtain ⟨h1, h2⟩ := h
 refine ⟨h1, ?_⟩
 rcases h2 with h2 | ⟨g, cap, cur, hv, hg, hh, r⟩
 · exact Or.inl h2
 · exact Or.inr ⟨g, cap, cur, hv, hg, by rw [hk g hg]; exact hh, r⟩
theorem yex {k : IntKind} {e : Nat} {w w' : World} {b : Nat} {v : Value} {xs : List Int} (h : Kd.R (Kd.int k) e w b (fun _ => True) v xs) (hk : ∀ k, b ≤ k → w'.heap[k]? = w.heap[k]?) : Kd.R (Kd.int k) e w' b (fun _ => True) v xs := Kd.R_of_own (own_keep (Kd.yeo h) hk) (fun _ _ => trivial)
theorem yek (w : World) (o1 o2 : Obj) : ((w.alloc o1).alloc o2).heap[w.heap.size]? = some o1 ∧ ((w.alloc o1).alloc o2).heap[w.heap.size + 1]? = some o2 := by
 refine ⟨blk_alloc (World.alloc_heap_new w o1) o2, ?_⟩
 have := World.alloc_heap_new (w.alloc o1) o2
 rwa [World.size_alloc] at this
set_option maxHeartbeats 4000000 in
set_option maxRecDepth 100000 in
theorem key15.calls (k : Nat) (s : Int) (n e d n2 e2 : List Int) (w : World) (hs0 : 0 ≤ s) (hs1 : s < 256) (h : ybk.f k s = some (n, e, d)) (hn : yal.f k n = some n2) (he : yal.f k e = some e2) :
 Calls Try.prog 19 #[.agg #[.int .u8 15, .int .u8 s]] w fun x w' => ∃ A1 c1 A2 c2 m, x = .returned (.agg #[.int .u8 2, .int .i64 0, .slice none 0 0, .slice none 0 0, .bool false, .slice A1 n2.length c1, .slice A2 e2.length c2]) ∧
  Kd.R (Kd.int .u64) 61 w' w.heap.size (fun _ => True) (.slice A1 n2.length c1) n2 ∧ Kd.R (Kd.int .u64) 61 w' m (fun _ => True) (.slice A2 e2.length c2) e2 ∧ (∀ g, (Value.slice A1 n2.length c1).ownBlock = some g → g < m) ∧ w.heap.size ≤ m ∧ Below w.heap.size w w' := by
 have H1 := Aside0.mk h
 have H2 := Aside0.mk hn
 have H3 := Aside0.mk he
 have H4 := Aside0.mk (show ydg.f 15 s = some (-1) from rfl)
 clear h hn he
 go_enter Try.func19, Try.ntmps19
 go_wp2_with (first
  | (go_at_call 33; (with_reducible refine (ydg.calls 15 s (-1) _ H4.out).mono ?_); rintro e0 w0 ⟨rfl, hb⟩; have HB0 := Aside0.mk hb; clear hb; have hc0 : w0.cell? ⟨w.heap.size, 1, none⟩ = some (.int .u8 s) := (yaa ((HB0.out.block w.heap.size (by simp; omega)).trans (yek w _ _).1) 1).trans rfl; have BK0 := Aside0.mk ((HB0.out.block (w.heap.size + 1) (by simp)).trans (yek w _ _).2))
  | (go_at_call 47; (with_reducible refine (ybk.calls k s n e d _ H1.out).mono ?_); rintro e0 w1 ⟨v1, v2, v3, rfl, ho1, ho2, ho3, hb⟩; obtain ⟨A1, c1, rfl⟩ := Kd.ybc ho1; obtain ⟨A2, c2, rfl⟩ := Kd.ybc ho2; have HC1 := Aside0.mk (Kd.R_reads' ho1).2.2; have hc1 := (Kd.R_reads' ho1).2.1; have HC2 := Aside0.mk (Kd.R_reads' ho2).2.2; have hc2 := (Kd.R_reads' ho2).2.1; have HB1 := Aside0.mk hb; clear ho1 ho2 ho3 hb)
  | (go_at_call 26; (with_reducible refine (yal.calls k A1 c1 n n2 _ ?s0 hc1 H2.out).mono ?_); (case s0 => exact Z2_); rintro e0 w3 ⟨v, rfl, ho, hb⟩; obtain ⟨A3, c3, rfl⟩ := Kd.ybc ho; have HO3 := Aside0.mk ho; have HB3 := Aside0.mk hb; clear ho hb)
  | (go_at_call 26; (with_reducible refine (yal.calls k A2 c2 e e2 _ ?s0 hc2 H3.out).mono ?_); (case s0 => exact Z2_); rintro e0 w4 ⟨v, rfl, ho, hb⟩; obtain ⟨A4, c4, rfl⟩ := Kd.ybc ho; have HO4 := Aside0.mk ho; have HB4 := Aside0.mk hb; have BK4 := Aside0.mk (ybq (ybq (ybq BK0.out HB1.out) HB3.out) hb); clear ho hb)
  | ((with_reducible refine ycm (t := 49) (p := 2) rfl ?_); refine yee rfl rfl rfl rfl BK4.out rfl (by kernel_rfl) (by simp [Value.oneCell']) ?_; intro w5 hk5 hf5 hs5; have BK5 := Aside0.mk hk5; have HF5 := Aside0.mk hf5; have HS5 := Aside0.mk hs5; clear hk5 hf5 hs5))
 (try simp only [Exit.inBlock, Exit.then])
 refine bodyPost_ret (results_single rfl (.cell _ _ _ _ _ rfl BK5.out Try.underlying49 rfl (by kernel_rfl) .nil)) rfl ?_
 obtain ⟨hs1, hs2, hs3, hs4⟩ := HS5.out
 have b1 := HB0.out.size
 have b2 := HB1.out.size
 have b3 := HB3.out.size
 have b4 := HB4.out.size
 simp at b1
 refine ⟨A3, c3, A4, c4, w3.heap.size, rfl, Kd.ybl (yex (Kd.ycc HO3.out HB4.out) (fun k hk => HF5.out k (by omega))) (by omega), yex HO4.out (fun k hk => HF5.out k (by omega)), R_block_lt HO3.out, by omega, ?_⟩
 have hB4 : Below w.heap.size w w4 := Z1_
 exact ⟨hs1.trans hB4.os, hs2.trans hB4.tape, hs3.trans hB4.output, by rw [hs4]; exact hB4.size, fun k hk => (HF5.out k (by omega)).trans (hB4.block k hk)⟩
theorem yeg {w : World} {g : Nat} {o : Obj} (h : w.heap[g]? = some o) : w.drew.heap[g]? = some o := h
theorem ybo {w : World} {g : Nat} {t : TypeId} {cs : Array Value} (h : w.heap[g]? = some (.cells cs t (0, 0))) (i : Nat) : w.frozen? ⟨g, i, none⟩ = false := by simp [World.frozen?, h]
theorem yel {w w' : World} {b : Nat} (hf : ∀ k, k ≠ b → w'.heap[k]? = w.heap[k]?) (hs : w'.os = w.os ∧ w'.tape = w.tape ∧ w'.output = w.output ∧ w'.heap.size = w.heap.size) {B : Nat} (hb : B ≤ b) : Below B w w' := ⟨hs.1, hs.2.1, hs.2.2.1, by rw [hs.2.2.2]; exact Nat.le_refl _, fun k hk => hf k (by omega)⟩
theorem yik.calls (k : Nat) (s : Int) (n e d n2 e2 : List Int) (w : World) (hp : 0 < n2.length) (hs0 : 0 ≤ s) (hs1 : s < 256) (h : ybk.f k s = some (n, e, d)) (hn : yal.f k n = some n2) (he : yal.f k e = some e2) :
 Calls Try.prog 19 #[.agg #[.int .u8 15, .int .u8 s]] w fun x w' => ∃ g c1 A2 c2 m, x = .returned (.agg #[.int .u8 2, .int .i64 0, .slice none 0 0, .slice none 0 0, .bool false, .slice (some ⟨g, 0, none⟩) n2.length c1, .slice A2 e2.length c2]) ∧
  Kd.R (Kd.int .u64) 61 w' w.heap.size (fun _ => True) (.slice (some ⟨g, 0, none⟩) n2.length c1) n2 ∧ Kd.R (Kd.int .u64) 61 w' m (fun _ => True) (.slice A2 e2.length c2) e2 ∧ w.heap.size ≤ g ∧ g < m ∧ Below w.heap.size w w' := by
 refine (key15.calls k s n e d n2 e2 w hs0 hs1 h hn he).mono ?_
 rintro x w' ⟨A1, c1, A2, c2, m, rfl, h1, h2, h3, h4, h5⟩
 have h' := (Kd.yeo h1).2
 rcases h' with ⟨e1, e2⟩ | ⟨g, cap, cur, e1, e2, _⟩
 · injection e1 with _ e3
   omega
 · injection e1 with e3 _ _
   subst e3
   exact ⟨g, c1, A2, c2, m, rfl, h1, h2, e2, h3 g rfl, h5⟩
end Go.Proofs.Ytgnaaaliadiekaa.B
end
