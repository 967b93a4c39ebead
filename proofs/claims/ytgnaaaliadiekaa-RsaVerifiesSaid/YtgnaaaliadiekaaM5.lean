/- A part of the proof (merged by pack.py, a program of this session: what the row's proof names). -/
import Derived.Test.YtgnaaaliadiekaaM4
import Derived.Test.YtgnaaaliadiekaaM0
section
namespace Go.Proofs.Ytgnaaaliadiekaa.B
open Go.RowKit Go.Proofs.YtgnaaaliadiekaaW.PrintWords Go.Proofs.YtgnaaaliadiekaaW.PrintLast Go.Proofs.YtgnaaaliadiekaaW.PrintMore
attribute [local go_sem] ycj ych ycs ycr ybw ybv yci ycg   -- for this text's walks alone
attribute [local go_sem] yca ybn ybz ybm
set_option linter.unusedVariables false
set_option linter.unusedSimpArgs false
mutual
def yal.l0 : Nat → List Int → List Int → Int → Option (List Int)
 | 0, _, _, _ => none
 | k + 1, x0, x3, x4 => if x4 < (x0.length : Int) then (yal.l1 k x0 x3 x4 0 3) else (some x3)
def yal.l1 : Nat → List Int → List Int → Int → Int → Int → Option (List Int)
 | 0, _, _, _, _, _ => none
 | k + 1, x0, x3, x4, x5, x6 => if x6 ≥ 0 then (if (wrap64 (x4 + x6)) < (x0.length : Int) then (if 0 ≤ (wrap64 (x4 + x6)) then (yal.l1 k x0 x3 x4 (IntKind.u64.wrap ((IntKind.u64.wrap (x5 * 65536)) + (IntKind.u64.wrap (rd x0 (wrap64 (x4 + x6)))))) (wrap64 (x6 - 1))) else (none)) else (yal.l1 k x0 x3 x4 (IntKind.u64.wrap (x5 * 65536)) (wrap64 (x6 - 1)))) else (if x3.length < 17592186044416 then (yal.l0 k x0 (x3 ++ [x5]) (wrap64 (x4 + 4))) else (none))
end
def yal.f (k : Nat) (l0 : List Int) : Option (List Int) := yal.l0 k l0 ([] : List Int) 0
theorem yal.ygs : ∀ k, (∀ y0 y1 y2, LeO (yal.l0 k y0 y1 y2) (yal.l0 (k + 1) y0 y1 y2)) ∧ (∀ y0 y1 y2 y3 y4, LeO (yal.l1 k y0 y1 y2 y3 y4) (yal.l1 (k + 1) y0 y1 y2 y3 y4))
 | 0 => ⟨fun _ _ _ r h => by simp [yal.l0] at h, fun _ _ _ _ _ r h => by simp [yal.l1] at h⟩
 | k + 1 => by
  obtain ⟨ih0, ih1⟩ := yal.ygs k
  refine ⟨?_, ?_⟩
  · intro y0 y1 y2
    unfold yal.l0
    repeat' first
    | (with_reducible exact ih0 _ _ _)
    | (with_reducible exact ih1 _ _ _ _ _)
    | (with_reducible exact LeO.refl _)
    | (with_reducible exact LeO.none _)
    | (with_reducible refine LeO.ite ?_ ?_)
    | (with_reducible refine LeO.bind ?_ (fun _ => ?_))
    | exact ih0 _ _ _
    | exact ih1 _ _ _ _ _
    | exact LeO.none _
    | refine LeO.ite ?_ ?_
    | refine LeO.bind ?_ (fun _ => ?_)
  · intro y0 y1 y2 y3 y4
    unfold yal.l1
    repeat' first
    | (with_reducible exact ih0 _ _ _)
    | (with_reducible exact ih1 _ _ _ _ _)
    | (with_reducible exact LeO.refl _)
    | (with_reducible exact LeO.none _)
    | (with_reducible refine LeO.ite ?_ ?_)
    | (with_reducible refine LeO.bind ?_ (fun _ => ?_))
    | exact ih0 _ _ _
    | exact ih1 _ _ _ _ _
    | exact LeO.none _
    | refine LeO.ite ?_ ?_
    | refine LeO.bind ?_ (fun _ => ?_)
theorem yal.mono : ∀ a0 k, LeO (yal.f k a0) (yal.f (k + 1) a0) := by
 intro a0 k
 obtain ⟨ih0, ih1⟩ := yal.ygs k
 unfold yal.f
 repeat' first
  | (with_reducible exact ih0 _ _ _)
  | (with_reducible exact ih1 _ _ _ _ _)
  | (with_reducible exact LeO.refl _)
  | (with_reducible exact LeO.none _)
  | (with_reducible refine LeO.ite ?_ ?_)
  | (with_reducible refine LeO.bind ?_ (fun _ => ?_))
  | exact ih0 _ _ _
  | exact ih1 _ _ _ _ _
  | exact LeO.none _
  | refine LeO.ite ?_ ?_
  | refine LeO.bind ?_ (fun _ => ?_)
set_option maxHeartbeats 8000000 in
set_option maxRecDepth 100000 in
theorem yal.calls (k : Nat) (A0 : Option Addr) (c0 : Nat) (l0 : List Int) (r : List Int) (w : World) (hr0 : Kd.C (Kd.int .i64) w A0 l0.length l0) (hc0 : l0.length ≤ c0) (h : yal.f k l0 = some r) :
 Calls Try.prog 26 #[.slice A0 l0.length c0] w fun e w' => ∃ v0_ : Value, e = .returned (v0_) ∧ Kd.R (Kd.int .u64) 61 w' w.heap.size (fun _ => True) v0_ r ∧ Below w.heap.size w w' := by
 have HR0 := Aside0.mk hr0
 have HC0 := Aside0.mk hc0
 clear hr0 hc0
 have HB := Aside0.mk (Below.refl w.heap.size w)
 have H : (yal.l0 k l0 ([] : List Int) 0) = some r := h
 clear h
 have H' := Aside0.mk H
 clear H
 go_enter Try.func26, Try.ntmps26
 go_wp2
 go_loopg [3, 4] k (fun kq v3 v4 w' => ∃ (x3_1 : List Int) (x4_1 : Int), v4 = .int .i64 x4_1 ∧ Aside0 (yal.l0 kq l0 x3_1 x4_1 = some r) ∧ Aside0 (kq ≤ k) ∧ Aside0 (Kd.R (Kd.int .u64) 61 w' w.heap.size (fun _ => True) v3 x3_1) ∧ Aside0 (Below w.heap.size w w'))
 case atStart => exact ⟨(([] : List Int)), (0), Z27_, H', ⟨Nat.le_refl _⟩, ⟨by first | exact Kd.yfv _ _ _ _ _ | exact Kd.yid _ _ _ _ _ | exact Kd.yia _ _ _ _ _ | exact Kd.yic _ _ _ _ _ | exact Kd.yib _ _ _ _ _⟩, ⟨by repeat (first | (with_reducible first | exact HB.out | apply yad | apply yab | apply yac) | exact HB.out)⟩⟩
 case round =>
  clear H'
  obtain ⟨x3_1, x4_1, rfl, HA, HK1, HO_3, HB⟩ := hrel
  cases gk with
  | zero => exact absurd HA.out (by simp [yal.l0])
  | succ k1 =>
   have H := HA.out
   clear HA
   simp only [yal.l0] at H
   by_cases c2 : x4_1 < (l0.length : Int)
   · rw [if_pos c2] at H
     have c2b0 : decide (x4_1 < (l0.length : Int)) = true := decide_eq_true c2
     clear c2
     have H' := Aside0.mk H
     clear H
     go_wp2
     go_loopg [5, 6] k1 (fun kq v5 v6 w' => ∃ (x5_2 : Int) (x6_2 : Int), v5 = .int .u64 x5_2 ∧ v6 = .int .i64 x6_2 ∧ Aside0 (yal.l1 kq l0 x3_1 x4_1 x5_2 x6_2 = some r) ∧ Aside0 (kq ≤ k1) ∧ Aside0 (Kd.R (Kd.int .u64) 61 w' w.heap.size (fun _ => True) u3 x3_1) ∧ Aside0 (Below w.heap.size w w'))
     case atStart => exact ⟨(0), (3), Z27_, Z27_, H', ⟨Nat.le_refl _⟩, ⟨by (with_reducible repeat (first | apply Kd.yba | apply Kd.yaz | apply Kd.ybi)); exact HO_3.out⟩, ⟨by repeat (first | (with_reducible first | exact HB.out | apply yad | apply yab | apply yac) | exact HB.out)⟩⟩
     case round =>
      clear H'
      try clear c2
      try clear c2b0
      try clear p2
      obtain ⟨x5_2, x6_2, rfl, rfl, HA, HK2, HO_3, HB⟩ := hrel
      cases gk with
      | zero => exact absurd HA.out (by simp [yal.l1])
      | succ k2 =>
       have H := HA.out
       clear HA
       simp only [yal.l1] at H
       by_cases c3 : x6_2 ≥ 0
       · rw [if_pos c3] at H
         have c3b0 : decide (0 ≤ x6_2) = true := decide_eq_true c3
         clear c3
         by_cases c4 : (wrap64 (x4_1 + x6_2)) < (l0.length : Int)
         · rw [if_pos c4] at H
           have c4b0 : decide ((wrap64 (x4_1 + x6_2)) < (l0.length : Int)) = true := decide_eq_true c4
           clear c4
           obtain ⟨ji5, hji5⟩ : ∃ j_ : Int, (wrap64 (x4_1 + x6_2)) = j_ := ⟨_, rfl⟩
           replace H : (if 0 ≤ (ji5) then (yal.l1 k2 l0 x3_1 x4_1 (IntKind.u64.wrap ((IntKind.u64.wrap (x5_2 * 65536)) + (IntKind.u64.wrap (rd l0 (ji5))))) (wrap64 (x6_2 - 1))) else (none)) = some r := by first | (rw [hji5] at H; exact H) | (simp only [hji5] at H ⊢; exact H)
           (try rw [hji5] at c4b0)
           have hji5w : (IntKind.i64.wrap (x4_1 + x6_2)) = ji5 := (ydk _).trans hji5
           by_cases c6 : 0 ≤ (ji5)
           · rw [if_pos c6] at H
             have c6b0 : decide (0 ≤ (ji5)) = true := decide_eq_true c6
             clear c6
             have H' := Aside0.mk H
             clear H
             have p1001 : 0 ≤ ((ji5) : Int) := of_decide_eq_true Z26_
             have q1001 : (ji5) < (l0.length : Int) := of_decide_eq_true Z26_
             obtain ⟨ad1001, e1001, hx1001_0⟩ := Kd.ybs HR0.out (ji5) p1001 q1001
             cases e1001
             replace hx1001_0 := (HB.out.cell (World.block_lt_of_cell? w _ hx1001_0)).trans hx1001_0
             replace p1001 := eq_true p1001
             replace q1001 := eq_true q1001
             go_wp2
             go_roundg k2
             case measure => have := HK1.out; have := HK2.out; omega
             case rel => exact ⟨(IntKind.u64.wrap ((IntKind.u64.wrap (x5_2 * 65536)) + (IntKind.u64.wrap (rd l0 (ji5))))), (wrap64 (x6_2 - 1)), (by first | rfl | (simp; done) | (simp only [← hji5] <;> (first | rfl | simp)) | (simp [*]; done)), Z27_, H', ⟨by have := HK1.out; have := HK2.out; omega⟩, ⟨by (with_reducible repeat (first | apply Kd.yba | apply Kd.yaz | apply Kd.ybi)); exact HO_3.out⟩, ⟨by repeat (first | (with_reducible first | exact HB.out | apply yad | apply yab | apply yac) | exact HB.out)⟩⟩
           · rw [if_neg c6] at H
             exact absurd H (by simp)
         · rw [if_neg c4] at H
           have c4b0 : decide ((wrap64 (x4_1 + x6_2)) < (l0.length : Int)) = false := decide_eq_false c4
           clear c4
           have H' := Aside0.mk H
           clear H
           go_wp2
           go_roundg k2
           case measure => have := HK1.out; have := HK2.out; omega
           case rel => exact ⟨(IntKind.u64.wrap (x5_2 * 65536)), (wrap64 (x6_2 - 1)), Z27_, Z27_, H', ⟨by have := HK1.out; have := HK2.out; omega⟩, ⟨by (with_reducible repeat (first | apply Kd.yba | apply Kd.yaz | apply Kd.ybi)); exact HO_3.out⟩, ⟨by repeat (first | (with_reducible first | exact HB.out | apply yad | apply yab | apply yac) | exact HB.out)⟩⟩
       · rw [if_neg c3] at H
         have c3b0 : decide (0 ≤ x6_2) = false := decide_eq_false c3
         clear c3
         by_cases c7 : x3_1.length < 17592186044416
         · rw [if_pos c7] at H
           have LMc7 := Aside0.mk c7
           clear c7
           obtain ⟨y1002, hy1002⟩ : ∃ y_ : List Int, y_ = (x3_1 ++ [x5_2]) := ⟨_, rfl⟩
           replace H : (yal.l0 k2 l0 y1002 (wrap64 (x4_1 + 4))) = some r := by first | (rw [hy1002]; with_reducible exact H) | (have H2_ := (Option.bind_some _ _).symm.trans H; rw [hy1002]; with_reducible exact H2_) | (have H2_ := (Option.bind_some _ _).symm.trans H; with_reducible exact H2_) | with_reducible exact H | (rw [hy1002]; exact H) | exact H
           have Ny1002 := Aside0.mk hy1002
           clear hy1002
           have H' := Aside0.mk H
           clear H
           go_wp2_with (first | ((with_reducible refine ycl (b := .append) (xs := #[.tmp 34, .tmp 36]) rfl ?_); at_builtin; refine Kd.ydz (Kd.int .u64) (w0 := w) w.heap.size rfl (.tmp 34) (.tmp 36) 23 61 (.int .u64 0) 8 rfl Try.underlying23 ygd rfl (by decide) (by omega) u3 x3_1 x5_2 [.int .u64 x5_2] (fun _ => True) (fun _ => False) rfl rfl ?aP (fun _ hk => hk.elim) ?aF ?aO ?aB ?aS ?aL ?_; (case aP => exact rfl); (case aB => exact Z7_); (case aF => exact (fun _ _ => trivial)); (case aO => exact Z18_); (case aS => exact (yaj Z7_)); (case aL => have := LMc7.out; omega); intro v1003 w8 ho hb hg hat; rw [← Ny1002.out] at ho; have n0_ := Aside0.mk (hb); have n1_ := Aside0.mk (ho); clear HB; clear HO_3; have HB := n0_; have HO1004 := n1_; clear n0_ n1_; clear ho hb hg hat))
           go_roundg k2
           case measure => have := HK1.out; have := HK2.out; omega
           case rel => exact ⟨(y1002), (wrap64 (x4_1 + 4)), Z27_, H', ⟨by have := HK1.out; have := HK2.out; omega⟩, ⟨by (with_reducible repeat (first | apply Kd.yba | apply Kd.yaz | apply Kd.ybi)); exact HO1004.out⟩, ⟨by repeat (first | (with_reducible first | exact HB.out | apply yad | apply yab | apply yac) | exact HB.out)⟩⟩
         · rw [if_neg c7] at H
           exact absurd H (by simp)
   · rw [if_neg c2] at H
     have c2b0 : decide (x4_1 < (l0.length : Int)) = false := decide_eq_false c2
     clear c2
     obtain rfl := Option.some.inj H
     go_wp2
     go_ret
     exact ⟨_, by first | rfl | (simp [yap, yao] <;> rfl) | (simp [*, yap, yao] <;> rfl), by (with_reducible repeat (first | apply Kd.yba | apply Kd.yaz | apply Kd.ybi)); exact HO_3.out, by repeat (first | (with_reducible first | exact HB.out | apply yad | apply yab | apply yac) | exact HB.out)⟩
end Go.Proofs.Ytgnaaaliadiekaa.B
end
section
namespace Go.Proofs.Ytgnaaaliadiekaa.B
open Go.RowKit Go.Proofs.YtgnaaaliadiekaaW.PrintWords Go.Proofs.YtgnaaaliadiekaaW.PrintLast Go.Proofs.YtgnaaaliadiekaaW.PrintMore
attribute [local go_sem] ycj ych ycs ycr ybw ybv yci ycg   -- for this text's walks alone
attribute [local go_sem] yca ybn ybz ybm
set_option linter.unusedVariables false
set_option linter.unusedSimpArgs false
def yam.l0 : Nat → List Int → Int → Option (List Int)
 | 0, _, _ => none
 | k + 1, x0, x3 => if x3 > 0 then (if 0 ≤ (wrap64 (x3 - 1)) then (if (wrap64 (x3 - 1)) < (x0.length : Int) then (if (rd x0 (wrap64 (x3 - 1))) = 0 then (yam.l0 k x0 (wrap64 (x3 - 1))) else (if 0 ≤ x3 then (if x3 ≤ (x0.length : Int) then (some (x0.take (x3 : Int).toNat)) else (none)) else (none))) else (none)) else (none)) else (if 0 ≤ x3 then (if x3 ≤ (x0.length : Int) then (some (x0.take (x3 : Int).toNat)) else (none)) else (none))
def yam.f (k : Nat) (l0 : List Int) : Option (List Int) := yam.l0 k l0 (l0.length : Int)
theorem yam.ygs : ∀ k, (∀ y0 y1, LeO (yam.l0 k y0 y1) (yam.l0 (k + 1) y0 y1))
 | 0 => fun _ _ r h => by simp [yam.l0] at h
 | k + 1 => by
  have ih0 := yam.ygs k
  · intro y0 y1
    unfold yam.l0
    repeat' first
    | (with_reducible exact ih0 _ _)
    | (with_reducible exact LeO.refl _)
    | (with_reducible exact LeO.none _)
    | (with_reducible refine LeO.ite ?_ ?_)
    | (with_reducible refine LeO.bind ?_ (fun _ => ?_))
    | exact ih0 _ _
    | exact LeO.none _
    | refine LeO.ite ?_ ?_
    | refine LeO.bind ?_ (fun _ => ?_)
theorem yam.mono : ∀ a0 k, LeO (yam.f k a0) (yam.f (k + 1) a0) := by
 intro a0 k
 have ih0 := yam.ygs k
 unfold yam.f
 repeat' first
  | (with_reducible exact ih0 _ _)
  | (with_reducible exact LeO.refl _)
  | (with_reducible exact LeO.none _)
  | (with_reducible refine LeO.ite ?_ ?_)
  | (with_reducible refine LeO.bind ?_ (fun _ => ?_))
  | exact ih0 _ _
  | exact LeO.none _
  | refine LeO.ite ?_ ?_
  | refine LeO.bind ?_ (fun _ => ?_)
set_option maxHeartbeats 8000000 in
set_option maxRecDepth 100000 in
theorem yam.calls (k : Nat) (P0_ : Nat → Prop) (u9000_ : Value) (l0 : List Int) (r : List Int) (w0 w : World) (hB : Below w0.heap.size w0 w) (ho0 : Kd.R (Kd.int .i64) 3 w w0.heap.size P0_ u9000_ l0) (h : yam.f k l0 = some r) :
 Calls Try.prog 43 #[u9000_] w fun e w' => ∃ v0_ : Value, e = .returned (v0_) ∧ Kd.R (Kd.int .i64) 3 w' w0.heap.size (fun k_ => (P0_ k_ ∨ w.heap.size ≤ k_)) v0_ r ∧ Below w0.heap.size w0 w' ∧ Kept w w' (fun k_ => P0_ k_) := by
 have HO0 := Aside0.mk (show Kd.R (Kd.int .i64) 3 w w0.heap.size (fun k_ => (P0_ k_ ∨ w.heap.size ≤ k_)) u9000_ l0 from Kd.ycn ho0 (fun k_ hk => (.inl hk)))
 have HK := Aside0.mk (Kept.refl w (fun k_ => P0_ k_))
 have HW0 := Aside0.mk hB.size
 have HB := Aside0.mk hB
 clear hB
 have H : (yam.l0 k l0 (l0.length : Int)) = some r := h
 clear h
 have H' := Aside0.mk H
 clear H
 obtain ⟨Ao2, co2, eo2⟩ := Kd.ybc HO0.out
 subst eo2
 go_enter Try.func43, Try.ntmps43
 go_wp2
 go_loopg [3] k (fun kq v3 w' => ∃ (x3_1 : Int), v3 = .int .i64 x3_1 ∧ Aside0 (yam.l0 kq l0 x3_1 = some r) ∧ Aside0 (kq ≤ k) ∧ Aside0 (Kd.R (Kd.int .i64) 3 w' w0.heap.size (fun k_ => (P0_ k_ ∨ w.heap.size ≤ k_)) (.slice Ao2 l0.length co2) l0) ∧ Aside0 (Kept w w' (fun k_ => P0_ k_)) ∧ Aside0 (Below w0.heap.size w0 w'))
 case atStart => exact ⟨((l0.length : Int)), Z27_, H', ⟨Nat.le_refl _⟩, ⟨by (with_reducible repeat (first | apply Kd.yba | apply Kd.yaz | apply Kd.ybi)); exact HO0.out⟩, ⟨by repeat (first | (with_reducible first | exact HK.out | apply Kept.alloc | apply Kept.drewN | apply Kept.drew) | exact HK.out)⟩, ⟨by repeat (first | (with_reducible first | exact HB.out | apply yad | apply yab | apply yac) | exact HB.out)⟩⟩
 case round =>
  clear H'
  try clear p2
  obtain ⟨x3_1, rfl, HA, HK1, HO_0, HK, HB⟩ := hrel
  cases gk with
  | zero => exact absurd HA.out (by simp [yam.l0])
  | succ k1 =>
   have H := HA.out
   clear HA
   simp only [yam.l0] at H
   by_cases c3 : x3_1 > 0
   · rw [if_pos c3] at H
     have c3b0 : decide (0 < x3_1) = true := decide_eq_true c3
     clear c3
     obtain ⟨ji4, hji4⟩ : ∃ j_ : Int, (wrap64 (x3_1 - 1)) = j_ := ⟨_, rfl⟩
     replace H : (if 0 ≤ (ji4) then (if (ji4) < (l0.length : Int) then (if (rd l0 (ji4)) = 0 then (yam.l0 k1 l0 ji4) else (if 0 ≤ x3_1 then (if x3_1 ≤ (l0.length : Int) then (some (l0.take (x3_1 : Int).toNat)) else (none)) else (none))) else (none)) else (none)) = some r := by first | (rw [hji4] at H; exact H) | (simp only [hji4] at H ⊢; exact H)
     have hji4w : (IntKind.i64.wrap (x3_1 - 1)) = ji4 := (ydk _).trans hji4
     by_cases c5 : 0 ≤ (ji4)
     · rw [if_pos c5] at H
       have c5b0 : decide (0 ≤ (ji4)) = true := decide_eq_true c5
       clear c5
       by_cases c6 : (ji4) < (l0.length : Int)
       · rw [if_pos c6] at H
         have c6b0 : decide ((ji4) < (l0.length : Int)) = true := decide_eq_true c6
         clear c6
         by_cases c7 : (rd l0 (ji4)) = 0
         · rw [if_pos c7] at H
           have c7b0 : ((rd l0 (ji4)) == 0) = true := beq_iff_eq.mpr c7
           have c7b1 : ((rd l0 (ji4)) != 0) = false := bne_eq_false_iff_eq.mpr c7
           clear c7
           have H' := Aside0.mk H
           clear H
           have p1001 : 0 ≤ ((ji4) : Int) := of_decide_eq_true Z26_
           have q1001 : (ji4) < (l0.length : Int) := of_decide_eq_true Z26_
           obtain ⟨ad1001, e1001, hx1001_0⟩ := Kd.ybs (Kd.R_reads' HO_0.out).2.2 (ji4) p1001 q1001
           cases e1001
           replace p1001 := eq_true p1001
           replace q1001 := eq_true q1001
           go_wp2
           go_roundg k1
           case measure => have := HK1.out; omega
           case rel => exact ⟨(ji4), (by first | rfl | (simp; done) | (simp only [← hji4] <;> (first | rfl | simp)) | (simp [*]; done)), H', ⟨by have := HK1.out; omega⟩, ⟨by (with_reducible repeat (first | apply Kd.yba | apply Kd.yaz | apply Kd.ybi)); exact HO_0.out⟩, ⟨by repeat (first | (with_reducible first | exact HK.out | apply Kept.alloc | apply Kept.drewN | apply Kept.drew) | exact HK.out)⟩, ⟨by repeat (first | (with_reducible first | exact HB.out | apply yad | apply yab | apply yac) | exact HB.out)⟩⟩
         · rw [if_neg c7] at H
           have c7b0 : ((rd l0 (ji4)) == 0) = false := beq_eq_false_iff_ne.mpr c7
           have c7b1 : ((rd l0 (ji4)) != 0) = true := bne_iff_ne.mpr c7
           by_cases c8 : 0 ≤ x3_1
           · rw [if_pos c8] at H
             have c8b0 := eq_true c8
             have c8b1 : decide (0 ≤ x3_1) = true := decide_eq_true c8
             clear c8
             by_cases c9 : x3_1 ≤ (l0.length : Int)
             · rw [if_pos c9] at H
               have c9b0 := eq_true c9
               have c9b1 : decide (x3_1 ≤ (l0.length : Int)) = true := decide_eq_true c9
               clear c9
               obtain ⟨y1002, hy1002⟩ : ∃ y_ : List Int, y_ = (l0.take (x3_1 : Int).toNat) := ⟨_, rfl⟩
               replace H : (some y1002) = some r := by first | (rw [hy1002]; with_reducible exact H) | (have H2_ := (Option.bind_some _ _).symm.trans H; rw [hy1002]; with_reducible exact H2_) | (have H2_ := (Option.bind_some _ _).symm.trans H; with_reducible exact H2_) | with_reducible exact H | (rw [hy1002]; exact H) | exact H
               have Ny1002 := Aside0.mk hy1002
               clear hy1002
               obtain rfl := Option.some.inj H
               have p1001 : 0 ≤ ((ji4) : Int) := of_decide_eq_true Z26_
               have q1001 : (ji4) < (l0.length : Int) := of_decide_eq_true Z26_
               obtain ⟨ad1001, e1001, hx1001_0⟩ := Kd.ybs (Kd.R_reads' HO_0.out).2.2 (ji4) p1001 q1001
               cases e1001
               replace p1001 := eq_true p1001
               replace q1001 := eq_true q1001
               have q10 : (x3_1 : Int) ≤ ((l0.length : Int) : Int) := of_decide_eq_true Z26_
               obtain ⟨i010, hi010, _, hsz10, _⟩ := info_parts info3
               have hcut10 := cut_to (P := Try.prog) 28 3 .i64 Try.underlying28 hi010 (some ad1001) l0.length co2 x3_1 (of_decide_eq_true Z26_) q10 (Kd.R_reads' HO_0.out).2.1
               have hr10 := Kd.R_take (m := (x3_1 : Int).toNat) HO_0.out (by omega)
               have hy10 : y1002.length = (x3_1 : Int).toNat := (by rw [Ny1002.out, List.length_take]; omega)
               rw [← Ny1002.out] at hr10
               rw [← hy10] at hr10 hcut10
               clear hy10 hi010 hsz10 HO_0
               have HO1004 := Aside0.mk hr10
               clear hr10
               replace q10 := eq_true q10
               go_wp2
               go_ret
               exact ⟨_, by first | rfl | (simp [yap, yao] <;> rfl) | (simp only [← hji4]; first | rfl | (simp [yap, yao] <;> rfl)) | (simp [*, yap, yao] <;> rfl), by (with_reducible repeat (first | apply Kd.yba | apply Kd.yaz | apply Kd.ybi)); exact HO1004.out, by repeat (first | (with_reducible first | exact HB.out | apply yad | apply yab | apply yac) | exact HB.out), by repeat (first | (with_reducible first | exact HK.out | apply Kept.alloc | apply Kept.drewN | apply Kept.drew) | exact HK.out)⟩
             · rw [if_neg c9] at H
               exact absurd H (by simp)
           · rw [if_neg c8] at H
             exact absurd H (by simp)
       · rw [if_neg c6] at H
         exact absurd H (by simp)
     · rw [if_neg c5] at H
       exact absurd H (by simp)
   · rw [if_neg c3] at H
     have c3b0 : decide (0 < x3_1) = false := decide_eq_false c3
     clear c3
     by_cases c11 : 0 ≤ x3_1
     · rw [if_pos c11] at H
       have c11b0 := eq_true c11
       have c11b1 : decide (0 ≤ x3_1) = true := decide_eq_true c11
       clear c11
       by_cases c12 : x3_1 ≤ (l0.length : Int)
       · rw [if_pos c12] at H
         have c12b0 := eq_true c12
         have c12b1 : decide (x3_1 ≤ (l0.length : Int)) = true := decide_eq_true c12
         clear c12
         obtain ⟨y1005, hy1005⟩ : ∃ y_ : List Int, y_ = (l0.take (x3_1 : Int).toNat) := ⟨_, rfl⟩
         replace H : (some y1005) = some r := by first | (rw [hy1005]; with_reducible exact H) | (have H2_ := (Option.bind_some _ _).symm.trans H; rw [hy1005]; with_reducible exact H2_) | (have H2_ := (Option.bind_some _ _).symm.trans H; with_reducible exact H2_) | with_reducible exact H | (rw [hy1005]; exact H) | exact H
         have Ny1005 := Aside0.mk hy1005
         clear hy1005
         obtain rfl := Option.some.inj H
         have q13 : (x3_1 : Int) ≤ ((l0.length : Int) : Int) := of_decide_eq_true Z26_
         obtain ⟨i013, hi013, _, hsz13, _⟩ := info_parts info3
         have hcut13 := cut_to (P := Try.prog) 28 3 .i64 Try.underlying28 hi013 Ao2 l0.length co2 x3_1 (of_decide_eq_true Z26_) q13 (Kd.R_reads' HO_0.out).2.1
         have hr13 := Kd.R_take (m := (x3_1 : Int).toNat) HO_0.out (by omega)
         have hy13 : y1005.length = (x3_1 : Int).toNat := (by rw [Ny1005.out, List.length_take]; omega)
         rw [← Ny1005.out] at hr13
         rw [← hy13] at hr13 hcut13
         clear hy13 hi013 hsz13 HO_0
         have HO1007 := Aside0.mk hr13
         clear hr13
         replace q13 := eq_true q13
         go_wp2
         go_ret
         exact ⟨_, by first | rfl | (simp [yap, yao] <;> rfl) | (simp [*, yap, yao] <;> rfl), by (with_reducible repeat (first | apply Kd.yba | apply Kd.yaz | apply Kd.ybi)); exact HO1007.out, by repeat (first | (with_reducible first | exact HB.out | apply yad | apply yab | apply yac) | exact HB.out), by repeat (first | (with_reducible first | exact HK.out | apply Kept.alloc | apply Kept.drewN | apply Kept.drew) | exact HK.out)⟩
       · rw [if_neg c12] at H
         exact absurd H (by simp)
     · rw [if_neg c11] at H
       exact absurd H (by simp)
end Go.Proofs.Ytgnaaaliadiekaa.B
end
