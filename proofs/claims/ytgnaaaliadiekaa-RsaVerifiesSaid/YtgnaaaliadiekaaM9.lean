/- A part of the proof (merged by pack.py, a program of this session: what the row's proof names). -/
import Derived.Test.YtgnaaaliadiekaaM4
import Derived.Test.YtgnaaaliadiekaaM8
import Derived.Test.YtgnaaaliadiekaaM0
import Derived.Deep.RegionHeld3
import Derived.Deep.RegionLaw
import Derived.Laws.CopyOwn
import Derived.Lib.MakeNoZero
import Derived.RangeFuncBox
section
namespace Go.Proofs.Ytgnaaaliadiekaa.B
open Go.RowKit Go.Proofs.YtgnaaaliadiekaaW.PrintWords Go.Proofs.YtgnaaaliadiekaaW.PrintLast Go.Proofs.YtgnaaaliadiekaaW.PrintMore
set_option linter.unusedVariables false
theorem Boxed.drew {W : World} {B : Nat} {t : TypeId} {v : Value} (h : Boxed W B t v) : Boxed W.drew B t v := h
theorem Boxed.drewN {W : World} {B : Nat} {t : TypeId} {v : Value} (h : Boxed W B t v) (n : Nat) : Boxed (W.drewN n) B t v := h
theorem below_drawn0 {w w' : World} (h : ybj w w') : Below w.heap.size w w' := by
 obtain ⟨q, rfl⟩ := h
 exact yab (Below.refl _ _) q
def RowAt {α : Type} (d : Kd α) (w : World) (p : List α × Value) : Prop := ∃ (A : Option Addr) (c : Nat), p.2 = Value.slice A p.1.length c ∧ p.1.length ≤ c ∧ d.C w A p.1.length p.1
theorem RowAt.mk {α : Type} {d : Kd α} {w : World} {A : Option Addr} {c : Nat} {l : List α} (hc : l.length ≤ c) (h : d.C w A l.length l) : RowAt d w (l, Value.slice A l.length c) := ⟨A, c, rfl, hc, h⟩
theorem all_cons {α : Type} {P : α → Prop} {a : α} {l : List α} (h : P a) (t : ∀ x ∈ l, P x) : ∀ x ∈ a :: l, P x := List.forall_mem_cons.2 ⟨h, t⟩
end Go.Proofs.Ytgnaaaliadiekaa.B
end
section
namespace Go.Proofs.Ytgnaaaliadiekaa.B
open Go.RowKit Go.Proofs.YtgnaaaliadiekaaW.PrintWords Go.Proofs.YtgnaaaliadiekaaW.PrintLast Go.Proofs.YtgnaaaliadiekaaW.PrintMore
set_option linter.unusedVariables false
set_option linter.unusedSimpArgs false
attribute [local go_sem] ycj ych ycs ycr ybw ybv yci ycg
theorem run_MNZ (n : Nat) (hn : n ≤ 8192) (w : World) : ∃ cs : Array Value, (callFunc 79 #[.int .i64 n]).run Try.prog w = .ok (.value (.slice (some ⟨w.heap.size, 0, none⟩) n cs.size)) (w.drew.drew.alloc (.cells cs 5)) ∧ n ≤ cs.size ∧ cs.size ≤ maxLen := by
 obtain ⟨cs, h1, h2, h3⟩ := Lib.run_makeNoZero (P := Try.prog) w #[3] 38 5 Try.underlying38 n (by omega)
 refine ⟨cs, ?_, h2, h3 (by unfold maxLen; omega)⟩
 rw [run_callFunc_extern Try.func79 (by kernel_rfl) (by kernel_rfl) (by kernel_rfl) (e := Extern.BytealgMakeNoZero.makeNoZero #[3] #[38]) (by kernel_rfl), h1]
 rfl
def RepSt (w : World) (g N : Nat) (x : Int) (W : World) (k : Nat) : Prop := (∃ rest : List Value, W.heap[g]? = some (.cells (List.replicate k (Value.int .u8 x) ++ rest).toArray 5 (0, 0)) ∧ k + rest.length = N) ∧ Below w.heap.size w W
set_option maxHeartbeats 1000000 in
set_option maxRecDepth 100000 in
theorem bytes_Repeat.calls (A : Option Addr) (c n : Nat) (x : Int) (w : World) (h1 : 1 ≤ n) (h2 : n ≤ 8192) (hr : Kd.C (Kd.int .u8) w A 1 [x]) (hc : 1 ≤ c) (hm : bits_Mul.f 1 n = some (0, (n : Int))) :
 Calls Try.prog 46 #[.slice A 1 c, .int .i64 n] w fun e w' => ∃ (B : Option Addr) (c' : Nat), e = .returned (.slice B n c') ∧ n ≤ c' ∧ Kd.C (Kd.int .u8) w' B n (List.replicate n x) ∧ Below w.heap.size w w' := by
 obtain ⟨ad, rfl, hsrc⟩ := hr.2.2 (by decide)
 obtain ⟨cx, hcx1, hcx2, hcx3⟩ := hsrc 0 x rfl
 have hcx2 : cx = [.int .u8 x] := hcx2
 subst hcx2
 have hxc : w.cell? (ad.add 0) = some (.int .u8 x) := hcx3 0 _ rfl
 have HX := Aside0.mk hxc
 have HM := Aside0.mk hm
 clear hm hr hsrc hcx1 hcx3 hxc
 have hn0 : ((n : Int) == 0) = false := beq_eq_false_iff_ne.2 (by omega)
 have hne2 : ¬ (n : Int) < 0 := by omega
 have hsz : (Try.prog.info? 5).map (·.size) = some 1 := by kernel_rfl
 have HSZ := Aside0.mk hsz
 clear hsz
 go_enter Try.func46, Try.ntmps46
 go_wp2_with fail
 refine (bits_Mul.calls 1 n 0 n _ HM.out).mono ?_
 rintro e w1 ⟨rfl, q, rfl⟩
 obtain ⟨cs, hrun, hcs1, hcs2⟩ := run_MNZ n h2 (w.drewN q)
 have hg : ((w.drewN (q + 1 + 1)).alloc (.cells cs 5)).heap[w.heap.size]? = some (.cells cs 5 (0, 0)) := World.alloc_heap_new _ _
 have hcopy := run_copy_row (P := Try.prog) ((w.drewN (q + 1 + 1)).alloc (.cells cs 5)) 38 38 3 5 w.heap.size 0 n n ad 1 c cs 5 [.int .u8 x] Try.underlying38 HSZ.out hg (show 1 = Nat.min 1 n from (Nat.min_eq_left h1).symm)
  (fun j v hj => by
   rcases j with _ | j
   · injection hj with hj
     subst hj
     exact (World.cell?_alloc_lt (w.drewN (q + 1 + 1)) _ _ (World.block_lt_of_cell? w _ HX.out)).trans HX.out
   · simp at hj)
  (by simp; omega) (by intro v hv; simp at hv; subst hv; rfl)
 have hb2 : Below w.heap.size w (((w.drewN (q + 1 + 1)).alloc (.cells cs 5)).setRow w.heap.size (List.take 0 cs.toList ++ [Value.int IntKind.u8 x] ++ List.drop (0 + [Value.int IntKind.u8 x].length) cs.toList).toArray) :=
  below_setRow (((yab (Below.refl _ w) _).alloc (Nat.le_refl _) _)) (Nat.le_refl _) _
 have hg2 := setRow_heap _ w.heap.size cs (List.take 0 cs.toList ++ [Value.int IntKind.u8 x] ++ List.drop (0 + [Value.int IntKind.u8 x].length) cs.toList).toArray 5 (0, 0) hg
 obtain ⟨W2, hW2⟩ : ∃ W2, (((w.drewN (q + 1 + 1)).alloc (.cells cs 5)).setRow w.heap.size (List.take 0 cs.toList ++ [Value.int IntKind.u8 x] ++ List.drop (0 + [Value.int IntKind.u8 x].length) cs.toList).toArray) = W2 := ⟨_, rfl⟩
 rw [hW2] at hcopy hb2 hg2
 have hSt : RepSt w w.heap.size cs.size x W2 1 := ⟨⟨cs.toList.drop 1, by rw [hg2]; simp, by simp; omega⟩, hb2⟩
 have HSt := Aside0.mk hSt
 clear hSt hg2 hb2 hW2 hg
 go_wp2
 go_loopw [10] (fun bp wr => ∃ k : Nat, 1 ≤ k ∧ k ≤ n ∧ bp = .int .i64 k ∧ Aside0 (RepSt w w.heap.size cs.size x wr k)) (fun bp _ => n - (intOf bp).toNat)
 case atStart => exact ⟨1, Nat.le_refl _, h1, rfl, HSt⟩
 case round =>
  obtain ⟨k, hk1, hk2, rfl, HS⟩ := hrel
  by_cases hlt : k < n
  · have hcell : ∀ j v, (List.replicate (Nat.min k (n - k)) (Value.int .u8 x))[j]? = some v → wr.cell? ((⟨w.heap.size, 0, none⟩ : Addr).add j) = some v := by
     obtain ⟨⟨rest, hg, hl⟩, hb⟩ := HS.out
     intro j v hj
     obtain ⟨hj1, hj2⟩ := List.getElem?_eq_some_iff.1 hj
     rw [List.length_replicate] at hj1
     rw [List.getElem_replicate] at hj2
     subst hj2
     have hjk : j < k := Nat.lt_of_lt_of_le hj1 (Nat.min_le_left _ _)
     have ha : (⟨w.heap.size, 0, none⟩ : Addr).add j = ⟨w.heap.size, j, none⟩ := by unfold Addr.add; split <;> simp_all
     rw [ha]
     simp [World.cell?, hg, List.getElem?_append_left, hjk]
    obtain ⟨⟨rest, hg, hl⟩, hb⟩ := HS.out
    have HC := Aside0.mk hcell
    have HG := Aside0.mk hg
    have HB := Aside0.mk hb
    have hk0 : (0 : Int) ≤ (k : Int) := by omega
    have hkn : (k : Int) ≤ (n : Int) := by omega
    have hmn : Nat.min k (n - k) ≤ n - k := Nat.min_le_right _ _
    have hm1 : 1 ≤ Nat.min k (n - k) := Nat.le_min.2 ⟨hk1, by omega⟩
    clear hg hb hcell HS
    go_wp2
    go_region_held3 (fun _ => True) (exact trivial) ((refine step_copy_splice (by rfl) (.tmp 70) (.tmp 73) 38 38 (by rfl) 5 Try.underlying38 HSZ.out _ _ _ _ _ _ rfl rfl w.heap.size k (List.replicate k (Value.int .u8 x) ++ rest) 5 HG.out (List.replicate (Nat.min k (n - k)) (Value.int .u8 x)) ?hn ?hp (by rw [List.length_replicate, List.length_append, List.length_replicate]; omega) (by intro v hv; rw [(List.mem_replicate.1 hv).2]; rfl) w.heap.size w HB.out.drew (Nat.le_refl _) ?_; (case hn => rw [List.length_replicate]); (case hp => exact fun _ => ⟨if_neg (by omega), _, rfl, HC.out⟩); intro w4 hg4 hb4))
    have hm2 : Nat.min k (n - k) ≤ k := Nat.min_le_left _ _
    have hSt4 : RepSt w w.heap.size cs.size x w4 (k + Nat.min k (n - k)) := by
     refine ⟨⟨rest.drop (Nat.min k (n - k)), ?_, ?_⟩, hb4⟩
     · rw [hg4.out]
       unfold splice
       rw [List.take_append_of_le_length (by rw [List.length_replicate]; exact Nat.le_refl _), List.take_of_length_le (by rw [List.length_replicate]; exact Nat.le_refl _), List.length_replicate, List.drop_append, List.drop_of_length_le (by rw [List.length_replicate]; omega), List.length_replicate, List.nil_append, ← List.append_assoc, List.replicate_append_replicate, show k + Nat.min k (n - k) - k = Nat.min k (n - k) from by omega]
     · rw [List.length_drop]
       omega
    have HS4 := Aside0.mk hSt4
    clear hSt4 hg4 hb4
    have hwr : IntKind.i64.wrap ((k : Int) + (Nat.min k (n - k) : Nat)) = ((k + Nat.min k (n - k) : Nat) : Int) := by rw [ydk]; unfold wrap64; omega
    rw [hwr]
    clear hwr
    go_roundw
    case rel => (repeat apply Exists.intro); exact ⟨⟨k + Nat.min k (n - k), by omega, by omega, rfl, HS4⟩, rfl⟩
    case measure => simp [intOf]; omega
  · obtain rfl : k = n := by omega
    go_wp2
    refine bodyPost_ret (results_tmp rfl _ _ _) rfl ?_
    obtain ⟨⟨rest, hg, hl⟩, hb⟩ := HS.out
    refine ⟨_, _, rfl, Nat.le_refl _, ⟨by simp, by omega, fun _ => ⟨_, rfl, fun j p hj => ?_⟩⟩, hb⟩
    obtain ⟨hj1, hj2⟩ := List.getElem?_eq_some_iff.1 hj
    rw [List.length_replicate] at hj1
    rw [List.getElem_replicate] at hj2
    subst hj2
    refine ⟨[.int .u8 x], rfl, rfl, fun i u hi => ?_⟩
    cases i with
    | succ i => simp at hi
    | zero =>
     injection hi with hi
     subst hi
     have ha : (⟨w.heap.size, 0, none⟩ : Addr).add (j * 1 + 0) = ⟨w.heap.size, j, none⟩ := by unfold Addr.add; split <;> simp_all
     rw [show (Kd.int .u8).sz = 1 from rfl, ha]
     simp [World.cell?, hg, List.getElem?_append_left, hj1]
end Go.Proofs.Ytgnaaaliadiekaa.B
end
