/- A part of the proof (merged by pack.py, a program of this session: what the row's proof names). -/
import Derived.Test.YtgnaaaliadiekaaM4
import Derived.Test.YtgnaaaliadiekaaM8
import Derived.Test.YtgnaaaliadiekaaM9
import Derived.Test.YtgnaaaliadiekaaM0
import Derived.Lib.LazyBuf
section
namespace Go.Proofs.Ytgnaaaliadiekaa.B
open Go.RowKit Go.Proofs.YtgnaaaliadiekaaW.PrintWords Go.Proofs.YtgnaaaliadiekaaW.PrintLast Go.Proofs.YtgnaaaliadiekaaW.PrintMore
set_option linter.unusedVariables false
set_option linter.unusedSimpArgs false
theorem iU8 : (Try.prog.info? 5).map (fun i => (i.zero, i.size, i.bytes)) = some (some (.int .u8 0), 1, 1) := by kernel_rfl
theorem C_block {k : IntKind} {w : World} {g : Nat} {t : TypeId} {xs : List Int} (h : w.heap[g]? = some (.cells (xs.map (Value.int k)).toArray t (0, 0))) (hl : xs.length < 1000000) : Kd.C (Kd.int k) w (some ⟨g, 0, none⟩) xs.length xs := by
 refine ⟨rfl, by omega, fun _ => ⟨_, rfl, fun j p hj => ⟨[.int k p], rfl, rfl, fun i u hi => ?_⟩⟩⟩
 cases i with
 | succ i => simp at hi
 | zero =>
  injection hi with hi
  subst hi
  have ha : (⟨g, 0, none⟩ : Addr).add (j * (Kd.int k).sz + 0) = ⟨g, j, none⟩ := by
   rw [show (Kd.int k).sz = 1 from rfl]
   unfold Addr.add
   split <;> simp_all
  rw [ha]
  simp [World.cell?, h, hj]
def infoL : List Int := [48, 49, 48, 13, 6, 9, 96, 134, 72, 1, 101, 3, 4, 2, 1, 5, 0, 4, 32]
def yfo (size : Int) (hs : List Int) : List Int := if 62 ≤ size ∧ size ≤ 512 then [0, 1] ++ List.replicate (size.toNat - 54) 255 ++ [0] ++ infoL ++ hs else []
set_option maxHeartbeats 4000000 in
set_option maxRecDepth 100000 in
theorem yhu.calls (size : Int) (hs : List Int) (w : World) (hl : hs.length = 32) (hm : ∀ n : Nat, n ≤ 8192 → bits_Mul.f 1 n = some (0, (n : Int))) :
 Calls Try.prog 17 #[.int .i64 size, .agg (hs.map (Value.int .u8)).toArray] w fun e w' => ∃ v, e = .returned v ∧ Kd.R (Kd.int .u8) 5 w' w.heap.size (fun _ => True) v (yfo size hs) ∧ Below w.heap.size w w' := by
 by_cases h1 : 62 ≤ size ∧ size ≤ 512
 · obtain ⟨h1, h2⟩ := h1
   obtain ⟨n, hn⟩ := Int.eq_ofNat_of_zero_le (show 0 ≤ size - 3 - 19 - 32 by omega)
   obtain ⟨y5, e5⟩ : ∃ y, y = ([0, 1] : List Int) ++ List.replicate n 255 := ⟨_, rfl⟩
   obtain ⟨y6, e6⟩ : ∃ y, y = y5 ++ [0] := ⟨_, rfl⟩
   obtain ⟨y7, e7⟩ : ∃ y, y = y6 ++ infoL := ⟨_, rfl⟩
   have hp : yfo size hs = y7 ++ hs := by rw [e7, e6, e5]; unfold yfo; rw [if_pos ⟨h1, h2⟩, show size.toNat - 54 = n from by omega]
   have l5 : y5.length = n + 2 := by rw [e5, List.length_append, List.length_replicate]; simp only [List.length_cons, List.length_nil]; omega
   have l6 : y6.length = n + 3 := by rw [e6, List.length_append, l5]; simp only [List.length_cons, List.length_nil]
   have l7 : y7.length = n + 22 := by rw [e7, List.length_append, l6]; rfl
   have E5 := Aside0.mk e5
   have E6 := Aside0.mk e6
   have E7 := Aside0.mk e7
   have HP := Aside0.mk hp
   have L5 := Aside0.mk l5
   have L6 := Aside0.mk l6
   have L7 := Aside0.mk l7
   have HM := Aside0.mk hm
   have hn2 : n ≤ 458 := by omega
   have hn1 : 8 ≤ n := by omega
   clear hm e5 e6 e7 hp l5 l6 l7
   go_enter Try.func17, Try.ntmps17
   go_wp2_with (first
    | ((with_reducible refine ybu (N := 17) rfl ?_); refine Kd.R_lit (Kd.int .u8) _ 5 ?hg (N := 17) ?hd (xs := ([0, 1] : List Int)) (inner := [.int .u8 0, .int .u8 1]) (ok := fun _ => True) (okp := fun _ => True) ?hr ?hp (fun _ hk => hk) trivial (Below.refl _ _) (Nat.le_refl _) (by simp) ?_; (case hd => rfl); (case hg => rfl); (case hr => first | (go_simp; done) | (go_simp; rfl)); (case hp => exact (Reps.one (show Kd.M (Kd.int .u8) _ _ _ 0 [.int .u8 0] from rfl) (Reps.one (show Kd.M (Kd.int .u8) _ _ _ 1 [.int .u8 1] from rfl) (Reps.none _ _)))); intro v2 w2 ho hb hg_ hnew_; clear hg_ hnew_; have HO := Aside0.mk (show Kd.R (Kd.int .u8) 5 w2 (w.heap.size + 1) (fun _ => True) v2 [0, 1] from by simpa using ho); have HB := Aside0.mk (show Below (w.heap.size + 1) (w.alloc (.cells (hs.map (Value.int .u8)).toArray 37)) w2 from by simpa using hb); clear ho hb)
    | ((with_reducible refine ybu (N := 18) rfl ?_); refine Kd.R_lit (Kd.int .u8) _ 5 ?hg (N := 18) ?hd (xs := ([255] : List Int)) (inner := [.int .u8 255]) (ok := fun _ => True) (okp := fun _ => True) ?hr ?hp (fun _ hk => hk) trivial (Below.refl _ _) (Nat.le_refl _) (by simp) ?_; (case hd => rfl); (case hg => rfl); (case hr => first | (go_simp; done) | (go_simp; rfl)); (case hp => exact (Reps.one (show Kd.M (Kd.int .u8) _ _ _ 255 [.int .u8 255] from rfl) (Reps.none _ _))); intro v3 w3 ho hb hg_ hnew_; clear hg_ hnew_; have n0 := Aside0.mk (Kd.ycc HO.out hb); have n1 := Aside0.mk (ygx HB.out (by have := HB.out.size; simp at this; omega) hb); clear HO HB; have HO := n0; have HB := n1; clear n0 n1; obtain ⟨A3, c3, rfl⟩ := Kd.ybc ho; have HC3 := Aside0.mk (Kd.R_reads' ho).2.2; have hc3 := (Kd.R_reads' ho).2.1; clear ho hb)
    | (go_at_call 46; refine (bytes_Repeat.calls _ _ n 255 _ (by omega) (by omega) ?s0 ?c0 (HM.out n (by omega))).mono ?_; (case s0 => exact HC3.out); (case c0 => exact hc3); rintro e w4 ⟨A4, c4, rfl, hc4, hC4, hb⟩; have HC4 := Aside0.mk hC4; have n0 := Aside0.mk (Kd.ycc HO.out hb); have n1 := Aside0.mk (ygx HB.out (by have := HB.out.size; simp at this; omega) hb); clear HO HB; have HO := n0; have HB := n1; clear n0 n1; clear hb hC4)
    | ((with_reducible refine ycl (b := .append) (xs := #[.tmp 17, .tmp 20]) rfl ?_); at_builtin; refine Kd.yeh (Kd.int .u8) (w0 := (w.alloc (.cells (hs.map (Value.int .u8)).toArray 37))) (w.heap.size + 1) rfl (.tmp 17) (.tmp 20) 38 5 (.int .u8 0) 1 rfl Try.underlying38 iU8 rfl (by decide) (by omega) v2 ([0, 1] : List Int) (List.replicate n (255 : Int)) _ _ _ (fun _ => True) (fun _ => False) rfl rfl ?aO ?aR (fun _ _ h => h) (fun _ h => h.elim) ?aF ?aB ?aS ?aL ?_; (case aR => exact HC4.out); (case aB => exact HB.out); (case aF => exact fun _ _ => trivial); (case aO => exact HO.out); (case aS => (have := HB.out.size; simp at this; omega)); (case aL => (simp; omega)); intro v5 w5 ho hb hg hat; rw [← E5.out] at ho; clear HO HB; have HO := Aside0.mk ho; have HB := Aside0.mk hb; clear ho hb hg hat)
    | ((with_reducible refine ycl (b := .append) (xs := #[.tmp 22, .tmp 23]) rfl ?_); at_builtin; refine Kd.ydz (Kd.int .u8) (w0 := (w.alloc (.cells (hs.map (Value.int .u8)).toArray 37))) (w.heap.size + 1) rfl (.tmp 22) (.tmp 23) 38 5 (.int .u8 0) 1 rfl Try.underlying38 iU8 rfl (by decide) (by omega) v5 y5 0 [.int .u8 0] (fun _ => True) (fun _ => False) rfl rfl ?aP (fun _ hk => hk.elim) ?aF ?aO ?aB ?aS ?aL ?_; (case aP => exact rfl); (case aB => exact HB.out); (case aF => exact fun _ _ => trivial); (case aO => exact (by (with_reducible repeat (first | apply Kd.yba | apply Kd.yaz | apply Kd.ybi)); exact HO.out)); (case aS => (have := HB.out.size; simp at this; omega)); (case aL => (have := L5.out; omega)); intro v6 w6 ho hb hg hat; rw [← E6.out] at ho; clear HO HB; have HO := Aside0.mk ho; have HB := Aside0.mk hb; clear ho hb hg hat)
    | (at_builtin; refine yin (w0 := (w.alloc (.cells (hs.map (Value.int .u8)).toArray 37))) (w.heap.size + 1) rfl (.tmp 24) _ 38 9 5 rfl Try.underlying38 Try.underlying9 iU8 v6 y6 _ rfl rfl ?aO ?aB ?aS ?aL ?_; (case aO => exact Kd.yeo HO.out); (case aB => exact HB.out); (case aS => (have := HB.out.size; simp at this; omega)); (case aL => (have := L6.out; show y6.length + 19 ≤ _; omega)); intro v7 w7 ho hb hg; have ho := (show Kd.R (Kd.int .u8) 5 w7 (w.heap.size + 1) (fun _ => True) v7 y7 from by rw [E7.out]; exact Kd.R_of_own ho (fun _ _ => trivial)); clear HO HB; have HO := Aside0.mk ho; have HB := Aside0.mk hb; clear ho hb hg)
    | ((with_reducible refine ycl (b := .append) (xs := #[.tmp 26, .tmp 27]) rfl ?_); at_builtin; refine Kd.yeh (Kd.int .u8) (w0 := (w.alloc (.cells (hs.map (Value.int .u8)).toArray 37))) (w.heap.size + 1) rfl (.tmp 26) (.tmp 27) 38 5 (.int .u8 0) 1 rfl Try.underlying38 iU8 rfl (by decide) (by omega) v7 y7 hs _ _ _ (fun _ => True) (fun _ => False) rfl rfl ?aO ?aR (fun _ _ h => h) (fun _ h => h.elim) ?aF ?aB ?aS ?aL ?_; (case aR => exact (by have hcb := C_block (k := .u8) ((HB.out.block w.heap.size (by omega)).trans (World.alloc_heap_new w _)) (by omega : hs.length < 1000000); rw [hl] at hcb; exact hcb)); (case aB => exact HB.out); (case aF => exact fun _ _ => trivial); (case aO => exact HO.out); (case aS => (have := HB.out.size; simp at this; omega)); (case aL => (have := L7.out; omega)); intro v8 w8 ho hb hg hat; rw [← HP.out] at ho; clear HO HB; have HO := Aside0.mk ho; have HB := Aside0.mk hb; clear ho hb hg hat))
   go_ret
   exact ⟨_, rfl, Kd.ybl HO.out (Nat.le_succ _), ((Below.refl _ _).alloc (Nat.le_refl _) _).trans (HB.out.mono (Nat.le_succ _))⟩
 · have hp : yfo size hs = [] := if_neg h1
   rw [hp]
   clear hm hp
   by_cases h2 : size < 62
   · clear h1
     go_enter Try.func17, Try.ntmps17
     go_wp2
     go_ret
     exact ⟨_, rfl, Kd.yfv _ _ _ _ _, (Below.refl _ _).alloc (Nat.le_refl _) _⟩
   · have h3 : 512 < size := by omega
     clear h1
     go_enter Try.func17, Try.ntmps17
     go_wp2
     go_ret
     exact ⟨_, rfl, Kd.yfv _ _ _ _ _, (Below.refl _ _).alloc (Nat.le_refl _) _⟩
set_option maxHeartbeats 4000000 in
set_option maxRecDepth 100000 in
theorem ygq.calls (size : Int) (hs : List Int) (w : World) (hl : hs.length = 32) :
 Calls Try.prog 18 #[.int .i64 size, .agg (hs.map (Value.int .u8)).toArray] w fun e w' => ∃ v, e = .returned v ∧ Kd.R (Kd.int .u8) 5 w' w.heap.size (fun _ => True) v (yfo size hs) ∧ Below w.heap.size w w' := by
 by_cases h1 : 62 ≤ size ∧ size ≤ 512
 · obtain ⟨h1, h2⟩ := h1
   go_enter Try.func18, Try.ntmps18
   go_wp2_with (first
    | ((with_reducible refine ybu (N := 12) rfl ?_); refine Kd.R_lit (Kd.int .u8) _ 5 ?hg (N := 12) ?hd (xs := ([0, 1] : List Int)) (inner := [.int .u8 0, .int .u8 1]) (ok := fun _ => True) (okp := fun _ => True) ?hr ?hp (fun _ hk => hk) trivial (Below.refl _ _) (Nat.le_refl _) (by simp) ?_; (case hd => rfl); (case hg => rfl); (case hr => first | (go_simp; done) | (go_simp; rfl)); (case hp => exact (Reps.one (show Kd.M (Kd.int .u8) _ _ _ 0 [.int .u8 0] from rfl) (Reps.one (show Kd.M (Kd.int .u8) _ _ _ 1 [.int .u8 1] from rfl) (Reps.none _ _)))); intro v2 w2 ho hb hg_ hnew_; clear hg_ hnew_; have HO := Aside0.mk (show Kd.R (Kd.int .u8) 5 w2 (w.heap.size + 1) (fun _ => True) v2 [0, 1] from by simpa using ho); have HB := Aside0.mk (show Below (w.heap.size + 1) (w.alloc (.cells (hs.map (Value.int .u8)).toArray 37)) w2 from by simpa using hb); clear ho hb))
   go_loopw [5] (fun v wr => ∃ k : Nat, (k : Int) + 2 ≤ size - 52 ∧ Aside0 (Kd.R (Kd.int .u8) 5 wr (w.heap.size + 1) (fun _ => True) v ([0, 1] ++ List.replicate k 255)) ∧ Aside0 (Below (w.heap.size + 1) (w.alloc (.cells (hs.map (Value.int .u8)).toArray 37)) wr)) (fun v _ => match v with | .slice _ n _ => size.toNat - n | _ => 0)
   case atStart => exact ⟨0, by omega, HO, HB⟩
   case round =>
    obtain ⟨k, hk, HO, HB⟩ := hrel
    obtain ⟨y, hy⟩ : ∃ y, y = ([0, 1] : List Int) ++ List.replicate k 255 := ⟨_, rfl⟩
    have hyl : y.length = k + 2 := by rw [hy, List.length_append, List.length_replicate]; simp only [List.length_cons, List.length_nil]; omega
    rw [← hy] at HO
    have HY := Aside0.mk hy
    have HYL := Aside0.mk hyl
    obtain ⟨Ay, cy, rfl⟩ := Kd.ybc HO.out
    clear hy
    by_cases hlt : (k : Int) + 2 < size - 52
    · have hly : (y.length : Int) < size - 52 := by omega
      clear hyl hlt
      go_wp2_with (first
      | ((with_reducible refine ycl (b := .append) (xs := #[.tmp 18, .tmp 19]) rfl ?_); at_builtin; refine Kd.ydz (Kd.int .u8) (w0 := (w.alloc (.cells (hs.map (Value.int .u8)).toArray 37))) (w.heap.size + 1) rfl (.tmp 18) (.tmp 19) 38 5 (.int .u8 0) 1 rfl Try.underlying38 iU8 rfl (by decide) (by omega) (.slice Ay y.length cy) y 255 [.int .u8 255] (fun _ => True) (fun _ => False) rfl rfl ?aP (fun _ hk => hk.elim) ?aF ?aO ?aB ?aS ?aL ?_; (case aP => exact rfl); (case aB => exact HB.out); (case aF => exact fun _ _ => trivial); (case aO => exact (by (with_reducible repeat (first | apply Kd.yba | apply Kd.yaz | apply Kd.ybi)); exact HO.out)); (case aS => (have := HB.out.size; simp at this; omega)); (case aL => (have := HYL.out; omega)); intro v3 w3 ho hb hg hat; have ho := (show Kd.R (Kd.int .u8) 5 w3 (w.heap.size + 1) (fun _ => True) v3 ([0, 1] ++ List.replicate (k + 1) 255) from by rw [List.replicate_succ', ← List.append_assoc, ← HY.out]; exact ho); obtain ⟨A3, c3, rfl⟩ := Kd.ybc ho; have HO3 := Aside0.mk ho; have HB3 := Aside0.mk hb; clear ho hb hg hat))
      have hlen3 : (([0, 1] : List Int) ++ List.replicate (k + 1) (255 : Int)).length = k + 1 + 1 + 1 := by simp
      have HO4 : Aside0 (Kd.R (Kd.int .u8) 5 w3 (w.heap.size + 1) (fun _ => True) (.slice A3 (k + 1 + 1 + 1) c3) ([0, 1] ++ List.replicate (k + 1) 255)) := by rw [← hlen3]; exact HO3
      clear hlen3
      go_roundw
      case rel => exact ⟨k + 1, by have := HYL.out; omega, HO4, HB3⟩
      case measure => (have := HYL.out; simp only [List.length_append, List.length_replicate, List.length_cons, List.length_nil]; omega)
    · have hly : ¬ (y.length : Int) < size - 52 := by omega
      obtain ⟨y6, e6⟩ : ∃ z, z = y ++ ([0] ++ infoL) := ⟨_, rfl⟩
      have hp : yfo size hs = y6 ++ hs := by rw [e6, HY.out]; unfold yfo; rw [if_pos ⟨h1, h2⟩, show size.toNat - 54 = k from by omega]; simp only [List.append_assoc]
      have l6 : y6.length = k + 22 := by rw [e6, List.length_append, hyl]; rfl
      have E6 := Aside0.mk e6
      have HP := Aside0.mk hp
      have L6 := Aside0.mk l6
      have hk2 : k ≤ 460 := by omega
      clear hyl hlt e6 hp l6
      go_wp2_with (first
      | ((with_reducible refine ybu (N := 22) rfl ?_); refine Kd.R_lit (Kd.int .u8) _ 5 ?hg (N := 22) ?hd (xs := ([0, 48, 49, 48, 13, 6, 9, 96, 134, 72, 1, 101, 3, 4, 2, 1, 5, 0, 4, 32] : List Int)) (inner := [.int .u8 0, .int .u8 48, .int .u8 49, .int .u8 48, .int .u8 13, .int .u8 6, .int .u8 9, .int .u8 96, .int .u8 134, .int .u8 72, .int .u8 1, .int .u8 101, .int .u8 3, .int .u8 4, .int .u8 2, .int .u8 1, .int .u8 5, .int .u8 0, .int .u8 4, .int .u8 32]) (ok := fun _ => True) (okp := fun _ => True) ?hr ?hp (fun _ hk => hk) trivial (Below.refl _ _) (Nat.le_refl _) (by simp) ?_; (case hd => rfl); (case hg => rfl); (case hr => first | (go_simp; done) | (go_simp; rfl)); (case hp => exact (Reps.one (show Kd.M (Kd.int .u8) _ _ _ 0 [.int .u8 0] from rfl) (Reps.one (show Kd.M (Kd.int .u8) _ _ _ 48 [.int .u8 48] from rfl) (Reps.one (show Kd.M (Kd.int .u8) _ _ _ 49 [.int .u8 49] from rfl) (Reps.one (show Kd.M (Kd.int .u8) _ _ _ 48 [.int .u8 48] from rfl) (Reps.one (show Kd.M (Kd.int .u8) _ _ _ 13 [.int .u8 13] from rfl) (Reps.one (show Kd.M (Kd.int .u8) _ _ _ 6 [.int .u8 6] from rfl) (Reps.one (show Kd.M (Kd.int .u8) _ _ _ 9 [.int .u8 9] from rfl) (Reps.one (show Kd.M (Kd.int .u8) _ _ _ 96 [.int .u8 96] from rfl) (Reps.one (show Kd.M (Kd.int .u8) _ _ _ 134 [.int .u8 134] from rfl) (Reps.one (show Kd.M (Kd.int .u8) _ _ _ 72 [.int .u8 72] from rfl) (Reps.one (show Kd.M (Kd.int .u8) _ _ _ 1 [.int .u8 1] from rfl) (Reps.one (show Kd.M (Kd.int .u8) _ _ _ 101 [.int .u8 101] from rfl) (Reps.one (show Kd.M (Kd.int .u8) _ _ _ 3 [.int .u8 3] from rfl) (Reps.one (show Kd.M (Kd.int .u8) _ _ _ 4 [.int .u8 4] from rfl) (Reps.one (show Kd.M (Kd.int .u8) _ _ _ 2 [.int .u8 2] from rfl) (Reps.one (show Kd.M (Kd.int .u8) _ _ _ 1 [.int .u8 1] from rfl) (Reps.one (show Kd.M (Kd.int .u8) _ _ _ 5 [.int .u8 5] from rfl) (Reps.one (show Kd.M (Kd.int .u8) _ _ _ 0 [.int .u8 0] from rfl) (Reps.one (show Kd.M (Kd.int .u8) _ _ _ 4 [.int .u8 4] from rfl) (Reps.one (show Kd.M (Kd.int .u8) _ _ _ 32 [.int .u8 32] from rfl) (Reps.none _ _)))))))))))))))))))))); intro v4 w4 ho hb hg_ hnew_; clear hg_ hnew_; have n0 := Aside0.mk (Kd.ycc HO.out hb); have n1 := Aside0.mk (ygx HB.out (by have := HB.out.size; simp at this; omega) hb); clear HO HB; have HO := n0; have HB := n1; clear n0 n1; obtain ⟨A3, c3, rfl⟩ := Kd.ybc ho; have HC3 := Aside0.mk (Kd.R_reads' ho).2.2; have hc3 := (Kd.R_reads' ho).2.1; clear ho hb)
      | ((with_reducible refine ycl (b := .append) (xs := #[.tmp 21, .tmp 22]) rfl ?_); at_builtin; refine Kd.yeh (Kd.int .u8) (w0 := (w.alloc (.cells (hs.map (Value.int .u8)).toArray 37))) (w.heap.size + 1) rfl (.tmp 21) (.tmp 22) 38 5 (.int .u8 0) 1 rfl Try.underlying38 iU8 rfl (by decide) (by omega) (.slice Ay y.length cy) y ([0] ++ infoL) _ _ _ (fun _ => True) (fun _ => False) rfl rfl ?aO ?aR (fun _ _ h => h) (fun _ h => h.elim) ?aF ?aB ?aS ?aL ?_; (case aR => exact HC3.out); (case aB => exact HB.out); (case aF => exact fun _ _ => trivial); (case aO => exact HO.out); (case aS => (have := HB.out.size; simp at this; omega)); (case aL => (have := HYL.out; show (y.length + 20) * 1 ≤ _; omega)); intro v6 w6 ho hb hg hat; rw [← E6.out] at ho; clear HO HB; have HO := Aside0.mk ho; have HB := Aside0.mk hb; clear ho hb hg hat)
      | ((with_reducible refine ycl (b := .append) (xs := #[.tmp 24, .tmp 25]) rfl ?_); at_builtin; refine Kd.yeh (Kd.int .u8) (w0 := (w.alloc (.cells (hs.map (Value.int .u8)).toArray 37))) (w.heap.size + 1) rfl (.tmp 24) (.tmp 25) 38 5 (.int .u8 0) 1 rfl Try.underlying38 iU8 rfl (by decide) (by omega) v6 y6 hs _ _ _ (fun _ => True) (fun _ => False) rfl rfl ?aO ?aR (fun _ _ h => h) (fun _ h => h.elim) ?aF ?aB ?aS ?aL ?_; (case aR => exact (by have hcb := C_block (k := .u8) ((HB.out.block w.heap.size (by omega)).trans (World.alloc_heap_new w _)) (by omega : hs.length < 1000000); rw [hl] at hcb; exact hcb)); (case aB => exact HB.out); (case aF => exact fun _ _ => trivial); (case aO => exact HO.out); (case aS => (have := HB.out.size; simp at this; omega)); (case aL => (have := L6.out; omega)); intro v8 w8 ho hb hg hat; rw [← HP.out] at ho; clear HO HB; have HO := Aside0.mk ho; have HB := Aside0.mk hb; clear ho hb hg hat))
      go_ret
      exact ⟨_, rfl, Kd.ybl HO.out (Nat.le_succ _), ((Below.refl _ _).alloc (Nat.le_refl _) _).trans (HB.out.mono (Nat.le_succ _))⟩
 · have hp : yfo size hs = [] := if_neg h1
   rw [hp]
   clear hp
   by_cases h2 : size < 62
   · clear h1
     go_enter Try.func18, Try.ntmps18
     go_wp2
     go_ret
     exact ⟨_, rfl, Kd.yfv _ _ _ _ _, (Below.refl _ _).alloc (Nat.le_refl _) _⟩
   · have h3 : 512 < size := by omega
     clear h1
     go_enter Try.func18, Try.ntmps18
     go_wp2
     go_ret
     exact ⟨_, rfl, Kd.yfv _ _ _ _ _, (Below.refl _ _).alloc (Nat.le_refl _) _⟩
end Go.Proofs.Ytgnaaaliadiekaa.B
end
section
namespace Go.Proofs.Ytgnaaaliadiekaa.B
open Go.RowKit Go.Proofs.YtgnaaaliadiekaaW.PrintWords Go.Proofs.YtgnaaaliadiekaaW.PrintLast Go.Proofs.YtgnaaaliadiekaaW.PrintMore
attribute [local go_sem] ycj ych ycs ycr ybw ybv yci ycg   -- for this text's walks alone
attribute [local go_sem] yca ybn ybz ybm
set_option linter.unusedVariables false
set_option linter.unusedSimpArgs false
def ycx.f (l0 : List Int) : Option (List Int) := if l0.length < 17592186044416 then some l0 else none
set_option maxHeartbeats 4000000 in
set_option maxRecDepth 100000 in
theorem ycx.calls (A0 : Option Addr) (c0 : Nat) (l0 : List Int) (r : List Int) (w : World) (hr0 : Kd.C (Kd.int .u64) w A0 l0.length l0) (hc0 : l0.length ≤ c0) (h : ycx.f l0 = some r) :
    Calls Try.prog 76 #[.slice A0 l0.length c0] w fun e w' => ∃ v0_ : Value, e = .returned (v0_) ∧ Kd.R (Kd.int .u64) 61 w' w.heap.size (fun _ => True) v0_ r ∧ Below w.heap.size w w' := by
  unfold ycx.f at h
  by_cases hl : l0.length < 17592186044416
  · rw [if_pos hl] at h
    injection h with h
    subst h
    have HR := Aside0.mk hr0
    have HL := Aside0.mk hl
    clear hr0 hc0 hl
    cases A0 with
    | none =>
      have hl0 : l0 = [] := by
        rcases Nat.eq_zero_or_pos l0.length with h0 | h0
        · exact List.eq_nil_of_length_eq_zero h0
        · obtain ⟨ad, h, _⟩ := HR.out.2.2 h0
          cases h
      subst hl0
      have hq : (binOp .eql 23 (.slice none 0 c0) (.slice none 0 0)).run Try.prog w = .ok (.bool true) w := run_eql_slice_nil (P := Try.prog) w 23 61 none ([] : List Int).length c0 Try.underlying23
      go_enter Try.func76, Try.ntmps76
      go_wp2
      go_ret
      exact ⟨_, rfl, Kd.yfv _ _ _ _ _, Below.refl _ _⟩
    | some ad =>
      have hq := run_eql_slice_nil (P := Try.prog) w 23 61 (some ad) l0.length c0 Try.underlying23
      go_enter Try.func76, Try.ntmps76
      go_wp2_with ((with_reducible refine ycl (b := .append) (xs := #[.tmp 5, .tmp 6]) rfl ?_); at_builtin; refine Kd.yeh (Kd.int .u64) (w0 := w) w.heap.size rfl (.tmp 5) (.tmp 6) 23 61 (.int .u64 0) 8 rfl Try.underlying23 ygd rfl (by decide) (by omega) (.slice (some ⟨w.heap.size, 0, none⟩) 0 0) [] l0 (some ad) l0.length c0 (fun _ => True) (fun _ => False) rfl rfl ?aO ?aR (fun _ _ h => h) (fun _ h => h.elim) (fun _ _ => trivial) ?aB ?aS ?aL ?_; (case aO => exact ⟨fun _ _ => trivial, [], World.ownsRow_made w #[] 0 (Nat.le_refl _) (Nat.zero_le _) rfl, Reps.none _ _⟩); (case aR => exact Kd.yau HR.out _); (case aB => exact yad (Below.refl _ _) _); (case aS => simp); (case aL => have := HL.out; simp; omega); intro v1 w1 ho hb hg _; have HO1 := Aside0.mk ho; have HB1 := Aside0.mk hb; clear ho hb hg)
      go_ret
      exact ⟨_, rfl, HO1.out, HB1.out⟩
  · rw [if_neg hl] at h
    cases h
end Go.Proofs.Ytgnaaaliadiekaa.B
end
