/- A part of the proof (merged by pack.py, a program of this session: what the row's proof names). -/
import Derived.Test.YtgnaaaliadiekaaM4
import Derived.Test.YtgnaaaliadiekaaM6
import Derived.Test.YtgnaaaliadiekaaM0
section
namespace Go.Proofs.Ytgnaaaliadiekaa.B
open Go.RowKit Go.Proofs.YtgnaaaliadiekaaW.PrintWords Go.Proofs.YtgnaaaliadiekaaW.PrintLast Go.Proofs.YtgnaaaliadiekaaW.PrintMore
attribute [local go_sem] ycj ych ycs ycr ybw ybv yci ycg   -- for this text's walks alone
attribute [local go_sem] yca ybn ybz ybm
set_option linter.unusedVariables false
set_option linter.unusedSimpArgs false
mutual
def yag.l0 : Nat → ByteArray → List Int → ByteArray → Int → Option (List Int)
 | 0, _, _, _, _ => none
 | k + 1, x0, x3, x4, x5 => if x5 < (x0.size : Int) then (yag.l1 k x0 x3 x4 x5 0 0) else ((yak.f k x3).bind fun t1001 => (some t1001))
def yag.l1 : Nat → ByteArray → List Int → ByteArray → Int → Int → Int → Option (List Int)
 | 0, _, _, _, _, _, _ => none
 | k + 1, x0, x3, x4, x5, x6, x7 => if x7 < 16 then (if 0 ≤ x7 then (if x7 < (x4.size : Int) then (if 0 ≤ x5 then (if x5 < (x0.size : Int) then (if (bt x4 x7) = (bt x0 x5) then (yag.l1 k x0 x3 x4 x5 x7 (wrap64 (x7 + 1))) else (yag.l1 k x0 x3 x4 x5 x6 (wrap64 (x7 + 1)))) else (none)) else (none)) else (none)) else (none)) else (if (Int.tmod (wrap64 ((x0.size : Int) - x5)) 2) = 0 then (if x3.length < 140737488355328 then (yag.l0 k x0 (x3 ++ [(x6) % 256]) x4 (wrap64 (x5 + 1))) else (none)) else (if x5 = 0 then (if ((x0.size : Int) % 2) = 1 then (if x3.length < 140737488355328 then (yag.l0 k x0 (x3 ++ [(x6) % 256]) x4 (wrap64 (x5 + 1))) else (none)) else (if 0 ≤ (wrap64 ((x3.length : Int) - 1)) then (if (wrap64 ((x3.length : Int) - 1)) < (x3.length : Int) then (yag.l0 k x0 (x3.set ((wrap64 ((x3.length : Int) - 1)) : Int).toNat (((((rd x3 (wrap64 ((x3.length : Int) - 1))) * 16) % 256) + ((x6) % 256)) % 256)) x4 (wrap64 (x5 + 1))) else (none)) else (none))) else (if 0 ≤ (wrap64 ((x3.length : Int) - 1)) then (if (wrap64 ((x3.length : Int) - 1)) < (x3.length : Int) then (yag.l0 k x0 (x3.set ((wrap64 ((x3.length : Int) - 1)) : Int).toNat (((((rd x3 (wrap64 ((x3.length : Int) - 1))) * 16) % 256) + ((x6) % 256)) % 256)) x4 (wrap64 (x5 + 1))) else (none)) else (none))))
end
def yag.f (k : Nat) (a0 : ByteArray) : Option (List Int) := yag.l0 k a0 ([] : List Int) (⟨#[48, 49, 50, 51, 52, 53, 54, 55, 56, 57, 97, 98, 99, 100, 101, 102]⟩ : ByteArray) 0
theorem yag.ygs : ∀ k, (∀ y0 y1 y2 y3, LeO (yag.l0 k y0 y1 y2 y3) (yag.l0 (k + 1) y0 y1 y2 y3)) ∧ (∀ y0 y1 y2 y3 y4 y5, LeO (yag.l1 k y0 y1 y2 y3 y4 y5) (yag.l1 (k + 1) y0 y1 y2 y3 y4 y5))
 | 0 => ⟨fun _ _ _ _ r h => by simp [yag.l0] at h, fun _ _ _ _ _ _ r h => by simp [yag.l1] at h⟩
 | k + 1 => by
  obtain ⟨ih0, ih1⟩ := yag.ygs k
  refine ⟨?_, ?_⟩
  · intro y0 y1 y2 y3
    unfold yag.l0
    repeat' first
    | (with_reducible exact ih0 _ _ _ _)
    | (with_reducible exact ih1 _ _ _ _ _ _)
    | (with_reducible exact yak.mono _ _)
    | (with_reducible exact LeO.refl _)
    | (with_reducible exact LeO.none _)
    | (with_reducible refine LeO.ite ?_ ?_)
    | (with_reducible refine LeO.bind ?_ (fun _ => ?_))
    | exact ih0 _ _ _ _
    | exact ih1 _ _ _ _ _ _
    | exact yak.mono _ _
    | exact LeO.none _
    | refine LeO.ite ?_ ?_
    | refine LeO.bind ?_ (fun _ => ?_)
  · intro y0 y1 y2 y3 y4 y5
    unfold yag.l1
    repeat' first
    | (with_reducible exact ih0 _ _ _ _)
    | (with_reducible exact ih1 _ _ _ _ _ _)
    | (with_reducible exact yak.mono _ _)
    | (with_reducible exact LeO.refl _)
    | (with_reducible exact LeO.none _)
    | (with_reducible refine LeO.ite ?_ ?_)
    | (with_reducible refine LeO.bind ?_ (fun _ => ?_))
    | exact ih0 _ _ _ _
    | exact ih1 _ _ _ _ _ _
    | exact yak.mono _ _
    | exact LeO.none _
    | refine LeO.ite ?_ ?_
    | refine LeO.bind ?_ (fun _ => ?_)
theorem yag.mono : ∀ a0 k, LeO (yag.f k a0) (yag.f (k + 1) a0) := by
 intro a0 k
 obtain ⟨ih0, ih1⟩ := yag.ygs k
 unfold yag.f
 repeat' first
  | (with_reducible exact ih0 _ _ _ _)
  | (with_reducible exact ih1 _ _ _ _ _ _)
  | (with_reducible exact yak.mono _ _)
  | (with_reducible exact LeO.refl _)
  | (with_reducible exact LeO.none _)
  | (with_reducible refine LeO.ite ?_ ?_)
  | (with_reducible refine LeO.bind ?_ (fun _ => ?_))
  | exact ih0 _ _ _ _
  | exact ih1 _ _ _ _ _ _
  | exact yak.mono _ _
  | exact LeO.none _
  | refine LeO.ite ?_ ?_
  | refine LeO.bind ?_ (fun _ => ?_)
set_option maxHeartbeats 8000000 in
set_option maxRecDepth 100000 in
theorem yag.calls (k : Nat) (a0 : ByteArray) (r : List Int) (w : World) (h : yag.f k a0 = some r) :
 Calls Try.prog 80 #[.string a0] w fun e w' => ∃ v0_ : Value, e = .returned (v0_) ∧ Kd.R (Kd.int .i64) 3 w' w.heap.size (fun _ => True) v0_ r ∧ Below w.heap.size w w' := by
 have HB := Aside0.mk (Below.refl w.heap.size w)
 have H : (yag.l0 k a0 ([] : List Int) (⟨#[48, 49, 50, 51, 52, 53, 54, 55, 56, 57, 97, 98, 99, 100, 101, 102]⟩ : ByteArray) 0) = some r := h
 clear h
 have H' := Aside0.mk H
 clear H
 go_enter Try.func80, Try.ntmps80
 go_wp2
 repeat (go_quiet (fail); try go_wp2)
 go_loopg [3, 5] k (fun kq v3 v5 w' => ∃ (x3_1 : List Int) (x5_1 : Int), v5 = .int .i64 x5_1 ∧ Aside0 (yag.l0 kq a0 x3_1 (⟨#[48, 49, 50, 51, 52, 53, 54, 55, 56, 57, 97, 98, 99, 100, 101, 102]⟩ : ByteArray) x5_1 = some r) ∧ Aside0 (kq ≤ k) ∧ Aside0 (Kd.R (Kd.int .u8) 5 w' w.heap.size (fun _ => True) v3 x3_1) ∧ Aside0 (Below w.heap.size w w'))
 case atStart => exact ⟨(([] : List Int)), (0), Z27_, H', ⟨Nat.le_refl _⟩, ⟨by first | exact Kd.yfv _ _ _ _ _ | exact Kd.yid _ _ _ _ _ | exact Kd.yia _ _ _ _ _ | exact Kd.yic _ _ _ _ _ | exact Kd.yib _ _ _ _ _⟩, ⟨by repeat (first | (with_reducible first | exact HB.out | apply yad | apply yab | apply yac) | exact HB.out)⟩⟩
 case round =>
  clear H'
  obtain ⟨x3_1, x5_1, rfl, HA, HK1, HO_3, HB⟩ := hrel
  cases gk with
  | zero => exact absurd HA.out (by simp [yag.l0])
  | succ k1 =>
   have H := HA.out
   clear HA
   simp only [yag.l0] at H
   by_cases c2 : x5_1 < (a0.size : Int)
   · rw [if_pos c2] at H
     have c2b0 : decide (x5_1 < (a0.size : Int)) = true := decide_eq_true c2
     clear c2
     have H' := Aside0.mk H
     clear H
     go_wp2
     repeat (go_quiet (fail); try go_wp2)
     go_loopg [6, 7] k1 (fun kq v6 v7 w' => ∃ (x6_2 : Int) (x7_2 : Int), v6 = .int .i64 x6_2 ∧ v7 = .int .i64 x7_2 ∧ Aside0 (yag.l1 kq a0 x3_1 (⟨#[48, 49, 50, 51, 52, 53, 54, 55, 56, 57, 97, 98, 99, 100, 101, 102]⟩ : ByteArray) x5_1 x6_2 x7_2 = some r) ∧ Aside0 (kq ≤ k1) ∧ Aside0 (Kd.R (Kd.int .u8) 5 w' w.heap.size (fun _ => True) u3 x3_1) ∧ Aside0 (Below w.heap.size w w'))
     case atStart => exact ⟨(0), (0), Z27_, Z27_, H', ⟨Nat.le_refl _⟩, ⟨by (with_reducible repeat (first | apply Kd.yba | apply Kd.yaz | apply Kd.ybi)); exact HO_3.out⟩, ⟨by repeat (first | (with_reducible first | exact HB.out | apply yad | apply yab | apply yac) | exact HB.out)⟩⟩
     case round =>
      clear H'
      try clear c2
      try clear c2b0
      try clear p2
      obtain ⟨x6_2, x7_2, rfl, rfl, HA, HK2, HO_3, HB⟩ := hrel
      cases gk with
      | zero => exact absurd HA.out (by simp [yag.l1])
      | succ k2 =>
       have H := HA.out
       clear HA
       simp only [yag.l1] at H
       by_cases c3 : x7_2 < 16
       · rw [if_pos c3] at H
         have c3b0 : decide (x7_2 < 16) = true := decide_eq_true c3
         clear c3
         by_cases c4 : 0 ≤ x7_2
         · rw [if_pos c4] at H
           have c4b0 : decide (0 ≤ x7_2) = true := decide_eq_true c4
           clear c4
           by_cases c5 : x7_2 < ((⟨#[48, 49, 50, 51, 52, 53, 54, 55, 56, 57, 97, 98, 99, 100, 101, 102]⟩ : ByteArray).size : Int)
           · rw [if_pos c5] at H
             have c5b0 : decide (x7_2 < ((⟨#[48, 49, 50, 51, 52, 53, 54, 55, 56, 57, 97, 98, 99, 100, 101, 102]⟩ : ByteArray).size : Int)) = true := decide_eq_true c5
             clear c5
             by_cases c7 : 0 ≤ x5_1
             · rw [if_pos c7] at H
               have c7b0 : decide (0 ≤ x5_1) = true := decide_eq_true c7
               clear c7
               by_cases c8 : x5_1 < (a0.size : Int)
               · rw [if_pos c8] at H
                 have c8b0 : decide (x5_1 < (a0.size : Int)) = true := decide_eq_true c8
                 clear c8
                 by_cases c10 : (bt (⟨#[48, 49, 50, 51, 52, 53, 54, 55, 56, 57, 97, 98, 99, 100, 101, 102]⟩ : ByteArray) x7_2) = (bt a0 x5_1)
                 · rw [if_pos c10] at H
                   have c10b0 : ((bt (⟨#[48, 49, 50, 51, 52, 53, 54, 55, 56, 57, 97, 98, 99, 100, 101, 102]⟩ : ByteArray) x7_2) == (bt a0 x5_1)) = true := beq_iff_eq.mpr c10
                   have c10b1 : ((bt (⟨#[48, 49, 50, 51, 52, 53, 54, 55, 56, 57, 97, 98, 99, 100, 101, 102]⟩ : ByteArray) x7_2) != (bt a0 x5_1)) = false := bne_eq_false_iff_eq.mpr c10
                   clear c10
                   have H' := Aside0.mk H
                   clear H
                   have p6 : 0 ≤ (x7_2 : Int) := of_decide_eq_true Z26_
                   have q6 : x7_2 < (16 : Int) := of_decide_eq_true Z26_
                   have hx6 := bt_at (⟨#[48, 49, 50, 51, 52, 53, 54, 55, 56, 57, 97, 98, 99, 100, 101, 102]⟩ : ByteArray) x7_2
                   replace p6 := eq_true p6
                   replace q6 := eq_true q6
                   have p9 : 0 ≤ (x5_1 : Int) := of_decide_eq_true Z26_
                   have q9 : x5_1 < (a0.size : Int) := of_decide_eq_true Z26_
                   have hx9 := bt_at a0 x5_1
                   replace p9 := eq_true p9
                   replace q9 := eq_true q9
                   go_wp2
                   repeat (go_quiet (fail); try go_wp2)
                   go_roundg k2
                   case measure => have := HK1.out; have := HK2.out; omega
                   case rel => exact ⟨(x7_2), (wrap64 (x7_2 + 1)), Z27_, Z27_, H', ⟨by have := HK1.out; have := HK2.out; omega⟩, ⟨by (with_reducible repeat (first | apply Kd.yba | apply Kd.yaz | apply Kd.ybi)); exact HO_3.out⟩, ⟨by repeat (first | (with_reducible first | exact HB.out | apply yad | apply yab | apply yac) | exact HB.out)⟩⟩
                 · rw [if_neg c10] at H
                   have c10b0 : ((bt (⟨#[48, 49, 50, 51, 52, 53, 54, 55, 56, 57, 97, 98, 99, 100, 101, 102]⟩ : ByteArray) x7_2) == (bt a0 x5_1)) = false := beq_eq_false_iff_ne.mpr c10
                   have c10b1 : ((bt (⟨#[48, 49, 50, 51, 52, 53, 54, 55, 56, 57, 97, 98, 99, 100, 101, 102]⟩ : ByteArray) x7_2) != (bt a0 x5_1)) = true := bne_iff_ne.mpr c10
                   have H' := Aside0.mk H
                   clear H
                   have p6 : 0 ≤ (x7_2 : Int) := of_decide_eq_true Z26_
                   have q6 : x7_2 < (16 : Int) := of_decide_eq_true Z26_
                   have hx6 := bt_at (⟨#[48, 49, 50, 51, 52, 53, 54, 55, 56, 57, 97, 98, 99, 100, 101, 102]⟩ : ByteArray) x7_2
                   replace p6 := eq_true p6
                   replace q6 := eq_true q6
                   have p9 : 0 ≤ (x5_1 : Int) := of_decide_eq_true Z26_
                   have q9 : x5_1 < (a0.size : Int) := of_decide_eq_true Z26_
                   have hx9 := bt_at a0 x5_1
                   replace p9 := eq_true p9
                   replace q9 := eq_true q9
                   go_wp2
                   repeat (go_quiet (fail); try go_wp2)
                   go_roundg k2
                   case measure => have := HK1.out; have := HK2.out; omega
                   case rel => exact ⟨(x6_2), (wrap64 (x7_2 + 1)), Z27_, Z27_, H', ⟨by have := HK1.out; have := HK2.out; omega⟩, ⟨by (with_reducible repeat (first | apply Kd.yba | apply Kd.yaz | apply Kd.ybi)); exact HO_3.out⟩, ⟨by repeat (first | (with_reducible first | exact HB.out | apply yad | apply yab | apply yac) | exact HB.out)⟩⟩
               · rw [if_neg c8] at H
                 exact absurd H (by simp)
             · rw [if_neg c7] at H
               exact absurd H (by simp)
           · rw [if_neg c5] at H
             exact absurd H (by simp)
         · rw [if_neg c4] at H
           exact absurd H (by simp)
       · rw [if_neg c3] at H
         have c3b0 : decide (x7_2 < 16) = false := decide_eq_false c3
         clear c3
         by_cases c11 : (Int.tmod (wrap64 ((a0.size : Int) - x5_1)) 2) = 0
         · rw [if_pos c11] at H
           have c11b0 : ((Int.tmod (wrap64 ((a0.size : Int) - x5_1)) 2) == 0) = true := beq_iff_eq.mpr c11
           have c11b1 : ((Int.tmod (wrap64 ((a0.size : Int) - x5_1)) 2) != 0) = false := bne_eq_false_iff_eq.mpr c11
           clear c11
           by_cases c12 : x3_1.length < 140737488355328
           · rw [if_pos c12] at H
             have LMc12 := Aside0.mk c12
             clear c12
             obtain ⟨y1004, hy1004⟩ : ∃ y_ : List Int, y_ = (x3_1 ++ [(x6_2) % 256]) := ⟨_, rfl⟩
             replace H : (yag.l0 k2 a0 y1004 (⟨#[48, 49, 50, 51, 52, 53, 54, 55, 56, 57, 97, 98, 99, 100, 101, 102]⟩ : ByteArray) (wrap64 (x5_1 + 1))) = some r := by first | (rw [hy1004]; with_reducible exact H) | (have H2_ := (Option.bind_some _ _).symm.trans H; rw [hy1004]; with_reducible exact H2_) | (have H2_ := (Option.bind_some _ _).symm.trans H; with_reducible exact H2_) | with_reducible exact H | (rw [hy1004]; exact H) | exact H
             have Ny1004 := Aside0.mk hy1004
             clear hy1004
             have H' := Aside0.mk H
             clear H
             go_wp2_with (first | ((with_reducible refine ycl (b := .append) (xs := #[.tmp 42, .tmp 45]) rfl ?_); (try (refine ydn (by rfl) ?_; dsimp only)); at_builtin; refine Kd.ydz (Kd.int .u8) (w0 := w) w.heap.size rfl (.tmp 42) (.tmp 45) 38 5 (.int .u8 0) 1 rfl Try.underlying38 info5 rfl (by decide) (by omega) u3 x3_1 ((x6_2) % 256) [.int .u8 ((x6_2) % 256)] (fun _ => True) (fun _ => False) rfl rfl ?aP (fun _ hk => hk.elim) ?aF ?aO ?aB ?aS ?aL ?_; (case aP => exact rfl); (case aB => exact Z7_); (case aF => exact (fun _ _ => trivial)); (case aO => exact Z18_); (case aS => exact (yaj Z7_)); (case aL => have := LMc12.out; omega); intro v1005 w13 ho hb hg hat; rw [← Ny1004.out] at ho; have n0_ := Aside0.mk (hb); have n1_ := Aside0.mk (ho); clear HB; clear HO_3; have HB := n0_; have HO1006 := n1_; clear n0_ n1_; clear ho hb hg hat))
             repeat (go_quiet (first | ((with_reducible refine ycl (b := .append) (xs := #[.tmp 42, .tmp 45]) rfl ?_); (try (refine ydn (by rfl) ?_; dsimp only)); at_builtin; refine Kd.ydz (Kd.int .u8) (w0 := w) w.heap.size rfl (.tmp 42) (.tmp 45) 38 5 (.int .u8 0) 1 rfl Try.underlying38 info5 rfl (by decide) (by omega) u3 x3_1 ((x6_2) % 256) [.int .u8 ((x6_2) % 256)] (fun _ => True) (fun _ => False) rfl rfl ?aP (fun _ hk => hk.elim) ?aF ?aO ?aB ?aS ?aL ?_; (case aP => exact rfl); (case aB => exact Z7_); (case aF => exact (fun _ _ => trivial)); (case aO => exact Z18_); (case aS => exact (yaj Z7_)); (case aL => have := LMc12.out; omega); intro v1005 w13 ho hb hg hat; rw [← Ny1004.out] at ho; have n0_ := Aside0.mk (hb); have n1_ := Aside0.mk (ho); clear HB; clear HO_3; have HB := n0_; have HO1006 := n1_; clear n0_ n1_; clear ho hb hg hat)); try go_wp2_with (first | ((with_reducible refine ycl (b := .append) (xs := #[.tmp 42, .tmp 45]) rfl ?_); (try (refine ydn (by rfl) ?_; dsimp only)); at_builtin; refine Kd.ydz (Kd.int .u8) (w0 := w) w.heap.size rfl (.tmp 42) (.tmp 45) 38 5 (.int .u8 0) 1 rfl Try.underlying38 info5 rfl (by decide) (by omega) u3 x3_1 ((x6_2) % 256) [.int .u8 ((x6_2) % 256)] (fun _ => True) (fun _ => False) rfl rfl ?aP (fun _ hk => hk.elim) ?aF ?aO ?aB ?aS ?aL ?_; (case aP => exact rfl); (case aB => exact Z7_); (case aF => exact (fun _ _ => trivial)); (case aO => exact Z18_); (case aS => exact (yaj Z7_)); (case aL => have := LMc12.out; omega); intro v1005 w13 ho hb hg hat; rw [← Ny1004.out] at ho; have n0_ := Aside0.mk (hb); have n1_ := Aside0.mk (ho); clear HB; clear HO_3; have HB := n0_; have HO1006 := n1_; clear n0_ n1_; clear ho hb hg hat)))
             go_roundg k2
             case measure => have := HK1.out; have := HK2.out; omega
             case rel => exact ⟨(y1004), (wrap64 (x5_1 + 1)), Z27_, H', ⟨by have := HK1.out; have := HK2.out; omega⟩, ⟨by (with_reducible repeat (first | apply Kd.yba | apply Kd.yaz | apply Kd.ybi)); exact HO1006.out⟩, ⟨by repeat (first | (with_reducible first | exact HB.out | apply yad | apply yab | apply yac) | exact HB.out)⟩⟩
           · rw [if_neg c12] at H
             exact absurd H (by simp)
         · rw [if_neg c11] at H
           have c11b0 : ((Int.tmod (wrap64 ((a0.size : Int) - x5_1)) 2) == 0) = false := beq_eq_false_iff_ne.mpr c11
           have c11b1 : ((Int.tmod (wrap64 ((a0.size : Int) - x5_1)) 2) != 0) = true := bne_iff_ne.mpr c11
           by_cases c14 : x5_1 = 0
           · rw [if_pos c14] at H
             have c14b0 : (x5_1 == 0) = true := beq_iff_eq.mpr c14
             have c14b1 : (x5_1 != 0) = false := bne_eq_false_iff_eq.mpr c14
             clear c14
             by_cases c15 : ((a0.size : Int) % 2) = 1
             · rw [if_pos c15] at H
               have c15b0 : (((a0.size : Int) % 2) == 1) = true := beq_iff_eq.mpr c15
               have c15b1 : (((a0.size : Int) % 2) != 1) = false := bne_eq_false_iff_eq.mpr c15
               clear c15
               by_cases c16 : x3_1.length < 140737488355328
               · rw [if_pos c16] at H
                 have LMc16 := Aside0.mk c16
                 clear c16
                 obtain ⟨y1007, hy1007⟩ : ∃ y_ : List Int, y_ = (x3_1 ++ [(x6_2) % 256]) := ⟨_, rfl⟩
                 replace H : (yag.l0 k2 a0 y1007 (⟨#[48, 49, 50, 51, 52, 53, 54, 55, 56, 57, 97, 98, 99, 100, 101, 102]⟩ : ByteArray) (wrap64 (x5_1 + 1))) = some r := by first | (rw [hy1007]; with_reducible exact H) | (have H2_ := (Option.bind_some _ _).symm.trans H; rw [hy1007]; with_reducible exact H2_) | (have H2_ := (Option.bind_some _ _).symm.trans H; with_reducible exact H2_) | with_reducible exact H | (rw [hy1007]; exact H) | exact H
                 have Ny1007 := Aside0.mk hy1007
                 clear hy1007
                 have H' := Aside0.mk H
                 clear H
                 go_wp2_with (first | ((with_reducible refine ycl (b := .append) (xs := #[.tmp 42, .tmp 45]) rfl ?_); (try (refine ydn (by rfl) ?_; dsimp only)); at_builtin; refine Kd.ydz (Kd.int .u8) (w0 := w) w.heap.size rfl (.tmp 42) (.tmp 45) 38 5 (.int .u8 0) 1 rfl Try.underlying38 info5 rfl (by decide) (by omega) u3 x3_1 ((x6_2) % 256) [.int .u8 ((x6_2) % 256)] (fun _ => True) (fun _ => False) rfl rfl ?aP (fun _ hk => hk.elim) ?aF ?aO ?aB ?aS ?aL ?_; (case aP => exact rfl); (case aB => exact Z7_); (case aF => exact (fun _ _ => trivial)); (case aO => exact Z18_); (case aS => exact (yaj Z7_)); (case aL => have := LMc16.out; omega); intro v1008 w17 ho hb hg hat; rw [← Ny1007.out] at ho; have n0_ := Aside0.mk (hb); have n1_ := Aside0.mk (ho); clear HB; clear HO_3; have HB := n0_; have HO1009 := n1_; clear n0_ n1_; clear ho hb hg hat))
                 repeat (go_quiet (first | ((with_reducible refine ycl (b := .append) (xs := #[.tmp 42, .tmp 45]) rfl ?_); (try (refine ydn (by rfl) ?_; dsimp only)); at_builtin; refine Kd.ydz (Kd.int .u8) (w0 := w) w.heap.size rfl (.tmp 42) (.tmp 45) 38 5 (.int .u8 0) 1 rfl Try.underlying38 info5 rfl (by decide) (by omega) u3 x3_1 ((x6_2) % 256) [.int .u8 ((x6_2) % 256)] (fun _ => True) (fun _ => False) rfl rfl ?aP (fun _ hk => hk.elim) ?aF ?aO ?aB ?aS ?aL ?_; (case aP => exact rfl); (case aB => exact Z7_); (case aF => exact (fun _ _ => trivial)); (case aO => exact Z18_); (case aS => exact (yaj Z7_)); (case aL => have := LMc16.out; omega); intro v1008 w17 ho hb hg hat; rw [← Ny1007.out] at ho; have n0_ := Aside0.mk (hb); have n1_ := Aside0.mk (ho); clear HB; clear HO_3; have HB := n0_; have HO1009 := n1_; clear n0_ n1_; clear ho hb hg hat)); try go_wp2_with (first | ((with_reducible refine ycl (b := .append) (xs := #[.tmp 42, .tmp 45]) rfl ?_); (try (refine ydn (by rfl) ?_; dsimp only)); at_builtin; refine Kd.ydz (Kd.int .u8) (w0 := w) w.heap.size rfl (.tmp 42) (.tmp 45) 38 5 (.int .u8 0) 1 rfl Try.underlying38 info5 rfl (by decide) (by omega) u3 x3_1 ((x6_2) % 256) [.int .u8 ((x6_2) % 256)] (fun _ => True) (fun _ => False) rfl rfl ?aP (fun _ hk => hk.elim) ?aF ?aO ?aB ?aS ?aL ?_; (case aP => exact rfl); (case aB => exact Z7_); (case aF => exact (fun _ _ => trivial)); (case aO => exact Z18_); (case aS => exact (yaj Z7_)); (case aL => have := LMc16.out; omega); intro v1008 w17 ho hb hg hat; rw [← Ny1007.out] at ho; have n0_ := Aside0.mk (hb); have n1_ := Aside0.mk (ho); clear HB; clear HO_3; have HB := n0_; have HO1009 := n1_; clear n0_ n1_; clear ho hb hg hat)))
                 go_roundg k2
                 case measure => have := HK1.out; have := HK2.out; omega
                 case rel => exact ⟨(y1007), (wrap64 (x5_1 + 1)), Z27_, H', ⟨by have := HK1.out; have := HK2.out; omega⟩, ⟨by (with_reducible repeat (first | apply Kd.yba | apply Kd.yaz | apply Kd.ybi)); exact HO1009.out⟩, ⟨by repeat (first | (with_reducible first | exact HB.out | apply yad | apply yab | apply yac) | exact HB.out)⟩⟩
               · rw [if_neg c16] at H
                 exact absurd H (by simp)
             · rw [if_neg c15] at H
               have c15b0 : (((a0.size : Int) % 2) == 1) = false := beq_eq_false_iff_ne.mpr c15
               have c15b1 : (((a0.size : Int) % 2) != 1) = true := bne_iff_ne.mpr c15
               obtain ⟨ji18, hji18⟩ : ∃ j_ : Int, (wrap64 ((x3_1.length : Int) - 1)) = j_ := ⟨_, rfl⟩
               replace H : (if 0 ≤ (ji18) then (if (ji18) < (x3_1.length : Int) then (yag.l0 k2 a0 (x3_1.set ((ji18) : Int).toNat (((((rd x3_1 (ji18)) * 16) % 256) + ((x6_2) % 256)) % 256)) (⟨#[48, 49, 50, 51, 52, 53, 54, 55, 56, 57, 97, 98, 99, 100, 101, 102]⟩ : ByteArray) (wrap64 (x5_1 + 1))) else (none)) else (none)) = some r := by first | (rw [hji18] at H; exact H) | (simp only [hji18] at H ⊢; exact H)
               have hji18w : (IntKind.i64.wrap ((x3_1.length : Int) - 1)) = ji18 := (ydk _).trans hji18
               by_cases c19 : 0 ≤ (ji18)
               · rw [if_pos c19] at H
                 have c19b0 : decide (0 ≤ (ji18)) = true := decide_eq_true c19
                 clear c19
                 by_cases c20 : (ji18) < (x3_1.length : Int)
                 · rw [if_pos c20] at H
                   have c20b0 : decide ((ji18) < (x3_1.length : Int)) = true := decide_eq_true c20
                   clear c20
                   obtain ⟨y1011, hy1011⟩ : ∃ y_ : List Int, y_ = (x3_1.set ((ji18) : Int).toNat (((((rd x3_1 (ji18)) * 16) % 256) + ((x6_2) % 256)) % 256)) := ⟨_, rfl⟩
                   replace H : (yag.l0 k2 a0 y1011 (⟨#[48, 49, 50, 51, 52, 53, 54, 55, 56, 57, 97, 98, 99, 100, 101, 102]⟩ : ByteArray) (wrap64 (x5_1 + 1))) = some r := by first | (rw [hy1011]; with_reducible exact H) | (have H2_ := (Option.bind_some _ _).symm.trans H; rw [hy1011]; with_reducible exact H2_) | (have H2_ := (Option.bind_some _ _).symm.trans H; with_reducible exact H2_) | with_reducible exact H | (rw [hy1011]; exact H) | exact H
                   have Ny1011 := Aside0.mk hy1011
                   clear hy1011
                   have H' := Aside0.mk H
                   clear H
                   obtain ⟨Ao22, co22, eo22⟩ := Kd.ybc HO_3.out
                   subst eo22
                   have p1010 : 0 ≤ ((ji18) : Int) := of_decide_eq_true Z26_
                   have q1010 : (ji18) < (x3_1.length : Int) := of_decide_eq_true Z26_
                   obtain ⟨ad1010, e1010, hx1010_0⟩ := Kd.ybs (Kd.R_reads' HO_3.out).2.2 (ji18) p1010 q1010
                   cases e1010
                   replace p1010 := eq_true p1010
                   replace q1010 := eq_true q1010
                   have p21 : 0 ≤ ((ji18) : Int) := of_decide_eq_true Z26_
                   have q21 : ((ji18) : Int) < ((x3_1.length : Int) : Int) := of_decide_eq_true Z26_
                   obtain ⟨go21, co21, eo21, gb21, gl21, cl21, HG21⟩ := Kd.yey HO_3.out (by omega)
                   (first | cases eo21 | (injection eo21 with ea_ en_ ec_; (first | subst ea_ | (injection ea_ with ea_; subst ea_)); subst ec_; clear en_))
                   have GB21 := Aside0.mk gb21
                   have GG21 := Aside0.mk HG21
                   clear gb21 gl21 HG21
                   (first | simp only [add_plain] at hx1010_0 | skip)
                   obtain ⟨hx21_0, hf21_0⟩ := Kd.ydb 0 HO_3.out ((ji18) : Int) p21 q21
                   replace p21 := eq_true p21
                   replace q21 := eq_true q21
                   have HP23 := Kd.yej HO_3.out ((ji18) : Int) (((((rd x3_1 (ji18)) * 16) % 256) + ((x6_2) % 256)) % 256)
                   go_wp2_with (first | ((with_reducible refine ycm (t := 5) (p := 61) rfl ?_); (try ((first | generalize hq_ : World.drewN wr nq = wr | (rw [ydi wr]; generalize hq_ : World.drewN wr _ = wr)); have n0_ := Aside0.mk (Kd.R_at hq_ HO_3.out); have n1_ := Aside0.mk (yeu hq_ HB.out); clear hq_ HO_3 HB; have HO_3 := n0_; have HB := n1_; clear n0_ n1_; (try (obtain ⟨hxg0_, hfg0_⟩ := Kd.ydb 0 HO_3.out ((ji18) : Int) (of_eq_true p21) (of_eq_true q21))); (try (have HP23 := Kd.yej HO_3.out ((ji18) : Int) (((((rd x3_1 (ji18)) * 16) % 256) + ((x6_2) % 256)) % 256))))); refine ycw (t := 5) (p := 61) (v := ?vo_w24) (w1 := (wr.setCell ⟨go21, ((ji18) : Int).toNat, none⟩ (.int .u8 (((((rd x3_1 (ji18)) * 16) % 256) + ((x6_2) % 256)) % 256)))) ?hg ?ho ?hn ?hr ?_; (case ho => rfl); (case hg => rfl); (case hn => rfl); (case hr => first | (go_simp; done) | (go_simp; rfl)); intro w24 hw; have hg : wr.grownBy w24 (some go21) := (by rw [hw]; exact HP23.2); have hp_ : Kd.R (Kd.int .u8) 5 w24 w.heap.size (fun _ => True) (.slice (some ⟨go21, 0, none⟩) x3_1.length co22) y1011 := (by rw [hw, Ny1011.out]; exact HP23.1); clear HP23; have n0_ := Aside0.mk (hp_); have n1_ := Aside0.mk ((by rw [hw]; exact ybx (HB.out) GB21.out : Below w.heap.size w w24)); clear HO_3; clear HB; have HO_3 := n0_; have HB := n1_; clear n0_ n1_; clear hg hw hp_))
                   repeat (go_quiet (first | ((with_reducible refine ycm (t := 5) (p := 61) rfl ?_); (try ((first | generalize hq_ : World.drewN wr nq = wr | (rw [ydi wr]; generalize hq_ : World.drewN wr _ = wr)); have n0_ := Aside0.mk (Kd.R_at hq_ HO_3.out); have n1_ := Aside0.mk (yeu hq_ HB.out); clear hq_ HO_3 HB; have HO_3 := n0_; have HB := n1_; clear n0_ n1_; (try (obtain ⟨hxg0_, hfg0_⟩ := Kd.ydb 0 HO_3.out ((ji18) : Int) (of_eq_true p21) (of_eq_true q21))); (try (have HP23 := Kd.yej HO_3.out ((ji18) : Int) (((((rd x3_1 (ji18)) * 16) % 256) + ((x6_2) % 256)) % 256))))); refine ycw (t := 5) (p := 61) (v := ?vo_w24) (w1 := (wr.setCell ⟨go21, ((ji18) : Int).toNat, none⟩ (.int .u8 (((((rd x3_1 (ji18)) * 16) % 256) + ((x6_2) % 256)) % 256)))) ?hg ?ho ?hn ?hr ?_; (case ho => rfl); (case hg => rfl); (case hn => rfl); (case hr => first | (go_simp; done) | (go_simp; rfl)); intro w24 hw; have hg : wr.grownBy w24 (some go21) := (by rw [hw]; exact HP23.2); have hp_ : Kd.R (Kd.int .u8) 5 w24 w.heap.size (fun _ => True) (.slice (some ⟨go21, 0, none⟩) x3_1.length co22) y1011 := (by rw [hw, Ny1011.out]; exact HP23.1); clear HP23; have n0_ := Aside0.mk (hp_); have n1_ := Aside0.mk ((by rw [hw]; exact ybx (HB.out) GB21.out : Below w.heap.size w w24)); clear HO_3; clear HB; have HO_3 := n0_; have HB := n1_; clear n0_ n1_; clear hg hw hp_)); try go_wp2_with (first | ((with_reducible refine ycm (t := 5) (p := 61) rfl ?_); (try ((first | generalize hq_ : World.drewN wr nq = wr | (rw [ydi wr]; generalize hq_ : World.drewN wr _ = wr)); have n0_ := Aside0.mk (Kd.R_at hq_ HO_3.out); have n1_ := Aside0.mk (yeu hq_ HB.out); clear hq_ HO_3 HB; have HO_3 := n0_; have HB := n1_; clear n0_ n1_; (try (obtain ⟨hxg0_, hfg0_⟩ := Kd.ydb 0 HO_3.out ((ji18) : Int) (of_eq_true p21) (of_eq_true q21))); (try (have HP23 := Kd.yej HO_3.out ((ji18) : Int) (((((rd x3_1 (ji18)) * 16) % 256) + ((x6_2) % 256)) % 256))))); refine ycw (t := 5) (p := 61) (v := ?vo_w24) (w1 := (wr.setCell ⟨go21, ((ji18) : Int).toNat, none⟩ (.int .u8 (((((rd x3_1 (ji18)) * 16) % 256) + ((x6_2) % 256)) % 256)))) ?hg ?ho ?hn ?hr ?_; (case ho => rfl); (case hg => rfl); (case hn => rfl); (case hr => first | (go_simp; done) | (go_simp; rfl)); intro w24 hw; have hg : wr.grownBy w24 (some go21) := (by rw [hw]; exact HP23.2); have hp_ : Kd.R (Kd.int .u8) 5 w24 w.heap.size (fun _ => True) (.slice (some ⟨go21, 0, none⟩) x3_1.length co22) y1011 := (by rw [hw, Ny1011.out]; exact HP23.1); clear HP23; have n0_ := Aside0.mk (hp_); have n1_ := Aside0.mk ((by rw [hw]; exact ybx (HB.out) GB21.out : Below w.heap.size w w24)); clear HO_3; clear HB; have HO_3 := n0_; have HB := n1_; clear n0_ n1_; clear hg hw hp_)))
                   go_roundg k2
                   case measure => have := HK1.out; have := HK2.out; omega
                   case rel => exact ⟨(y1011), (wrap64 (x5_1 + 1)), Z27_, H', ⟨by have := HK1.out; have := HK2.out; omega⟩, ⟨by (with_reducible repeat (first | apply Kd.yba | apply Kd.yaz | apply Kd.ybi)); exact HO_3.out⟩, ⟨by repeat (first | (with_reducible first | exact HB.out | apply yad | apply yab | apply yac) | exact HB.out)⟩⟩
                 · rw [if_neg c20] at H
                   exact absurd H (by simp)
               · rw [if_neg c19] at H
                 exact absurd H (by simp)
           · rw [if_neg c14] at H
             have c14b0 : (x5_1 == 0) = false := beq_eq_false_iff_ne.mpr c14
             have c14b1 : (x5_1 != 0) = true := bne_iff_ne.mpr c14
             obtain ⟨ji25, hji25⟩ : ∃ j_ : Int, (wrap64 ((x3_1.length : Int) - 1)) = j_ := ⟨_, rfl⟩
             (try (have hji25eji18 := hji25; rw [hji18] at hji25eji18))
             replace H : (if 0 ≤ (ji25) then (if (ji25) < (x3_1.length : Int) then (yag.l0 k2 a0 (x3_1.set ((ji25) : Int).toNat (((((rd x3_1 (ji25)) * 16) % 256) + ((x6_2) % 256)) % 256)) (⟨#[48, 49, 50, 51, 52, 53, 54, 55, 56, 57, 97, 98, 99, 100, 101, 102]⟩ : ByteArray) (wrap64 (x5_1 + 1))) else (none)) else (none)) = some r := by first | (rw [hji25] at H; exact H) | (simp only [hji25] at H ⊢; exact H)
             have hji25w : (IntKind.i64.wrap ((x3_1.length : Int) - 1)) = ji25 := (ydk _).trans hji25
             by_cases c26 : 0 ≤ (ji25)
             · rw [if_pos c26] at H
               have c26b0 : decide (0 ≤ (ji25)) = true := decide_eq_true c26
               clear c26
               by_cases c27 : (ji25) < (x3_1.length : Int)
               · rw [if_pos c27] at H
                 have c27b0 : decide ((ji25) < (x3_1.length : Int)) = true := decide_eq_true c27
                 clear c27
                 obtain ⟨y1013, hy1013⟩ : ∃ y_ : List Int, y_ = (x3_1.set ((ji25) : Int).toNat (((((rd x3_1 (ji25)) * 16) % 256) + ((x6_2) % 256)) % 256)) := ⟨_, rfl⟩
                 replace H : (yag.l0 k2 a0 y1013 (⟨#[48, 49, 50, 51, 52, 53, 54, 55, 56, 57, 97, 98, 99, 100, 101, 102]⟩ : ByteArray) (wrap64 (x5_1 + 1))) = some r := by first | (rw [hy1013]; with_reducible exact H) | (have H2_ := (Option.bind_some _ _).symm.trans H; rw [hy1013]; with_reducible exact H2_) | (have H2_ := (Option.bind_some _ _).symm.trans H; with_reducible exact H2_) | with_reducible exact H | (rw [hy1013]; exact H) | exact H
                 have Ny1013 := Aside0.mk hy1013
                 clear hy1013
                 have H' := Aside0.mk H
                 clear H
                 obtain ⟨Ao29, co29, eo29⟩ := Kd.ybc HO_3.out
                 subst eo29
                 have p1012 : 0 ≤ ((ji25) : Int) := of_decide_eq_true Z26_
                 have q1012 : (ji25) < (x3_1.length : Int) := of_decide_eq_true Z26_
                 obtain ⟨ad1012, e1012, hx1012_0⟩ := Kd.ybs (Kd.R_reads' HO_3.out).2.2 (ji25) p1012 q1012
                 cases e1012
                 replace p1012 := eq_true p1012
                 replace q1012 := eq_true q1012
                 have p28 : 0 ≤ ((ji25) : Int) := of_decide_eq_true Z26_
                 have q28 : ((ji25) : Int) < ((x3_1.length : Int) : Int) := of_decide_eq_true Z26_
                 obtain ⟨go28, co28, eo28, gb28, gl28, cl28, HG28⟩ := Kd.yey HO_3.out (by omega)
                 (first | cases eo28 | (injection eo28 with ea_ en_ ec_; (first | subst ea_ | (injection ea_ with ea_; subst ea_)); subst ec_; clear en_))
                 have GB28 := Aside0.mk gb28
                 have GG28 := Aside0.mk HG28
                 clear gb28 gl28 HG28
                 (first | simp only [add_plain] at hx1012_0 | skip)
                 obtain ⟨hx28_0, hf28_0⟩ := Kd.ydb 0 HO_3.out ((ji25) : Int) p28 q28
                 replace p28 := eq_true p28
                 replace q28 := eq_true q28
                 have HP30 := Kd.yej HO_3.out ((ji25) : Int) (((((rd x3_1 (ji25)) * 16) % 256) + ((x6_2) % 256)) % 256)
                 go_wp2_with (first | ((with_reducible refine ycm (t := 5) (p := 61) rfl ?_); (try ((first | generalize hq_ : World.drewN wr nq = wr | (rw [ydi wr]; generalize hq_ : World.drewN wr _ = wr)); have n0_ := Aside0.mk (Kd.R_at hq_ HO_3.out); have n1_ := Aside0.mk (yeu hq_ HB.out); clear hq_ HO_3 HB; have HO_3 := n0_; have HB := n1_; clear n0_ n1_; (try (obtain ⟨hxg0_, hfg0_⟩ := Kd.ydb 0 HO_3.out ((ji25) : Int) (of_eq_true p28) (of_eq_true q28))); (try (have HP30 := Kd.yej HO_3.out ((ji25) : Int) (((((rd x3_1 (ji25)) * 16) % 256) + ((x6_2) % 256)) % 256))))); refine ycw (t := 5) (p := 61) (v := ?vo_w31) (w1 := (wr.setCell ⟨go28, ((ji25) : Int).toNat, none⟩ (.int .u8 (((((rd x3_1 (ji25)) * 16) % 256) + ((x6_2) % 256)) % 256)))) ?hg ?ho ?hn ?hr ?_; (case ho => rfl); (case hg => rfl); (case hn => rfl); (case hr => first | (go_simp; done) | (go_simp; rfl)); intro w31 hw; have hg : wr.grownBy w31 (some go28) := (by rw [hw]; exact HP30.2); have hp_ : Kd.R (Kd.int .u8) 5 w31 w.heap.size (fun _ => True) (.slice (some ⟨go28, 0, none⟩) x3_1.length co29) y1013 := (by rw [hw, Ny1013.out]; exact HP30.1); clear HP30; have n0_ := Aside0.mk (hp_); have n1_ := Aside0.mk ((by rw [hw]; exact ybx (HB.out) GB28.out : Below w.heap.size w w31)); clear HO_3; clear HB; have HO_3 := n0_; have HB := n1_; clear n0_ n1_; clear hg hw hp_))
                 repeat (go_quiet (first | ((with_reducible refine ycm (t := 5) (p := 61) rfl ?_); (try ((first | generalize hq_ : World.drewN wr nq = wr | (rw [ydi wr]; generalize hq_ : World.drewN wr _ = wr)); have n0_ := Aside0.mk (Kd.R_at hq_ HO_3.out); have n1_ := Aside0.mk (yeu hq_ HB.out); clear hq_ HO_3 HB; have HO_3 := n0_; have HB := n1_; clear n0_ n1_; (try (obtain ⟨hxg0_, hfg0_⟩ := Kd.ydb 0 HO_3.out ((ji25) : Int) (of_eq_true p28) (of_eq_true q28))); (try (have HP30 := Kd.yej HO_3.out ((ji25) : Int) (((((rd x3_1 (ji25)) * 16) % 256) + ((x6_2) % 256)) % 256))))); refine ycw (t := 5) (p := 61) (v := ?vo_w31) (w1 := (wr.setCell ⟨go28, ((ji25) : Int).toNat, none⟩ (.int .u8 (((((rd x3_1 (ji25)) * 16) % 256) + ((x6_2) % 256)) % 256)))) ?hg ?ho ?hn ?hr ?_; (case ho => rfl); (case hg => rfl); (case hn => rfl); (case hr => first | (go_simp; done) | (go_simp; rfl)); intro w31 hw; have hg : wr.grownBy w31 (some go28) := (by rw [hw]; exact HP30.2); have hp_ : Kd.R (Kd.int .u8) 5 w31 w.heap.size (fun _ => True) (.slice (some ⟨go28, 0, none⟩) x3_1.length co29) y1013 := (by rw [hw, Ny1013.out]; exact HP30.1); clear HP30; have n0_ := Aside0.mk (hp_); have n1_ := Aside0.mk ((by rw [hw]; exact ybx (HB.out) GB28.out : Below w.heap.size w w31)); clear HO_3; clear HB; have HO_3 := n0_; have HB := n1_; clear n0_ n1_; clear hg hw hp_)); try go_wp2_with (first | ((with_reducible refine ycm (t := 5) (p := 61) rfl ?_); (try ((first | generalize hq_ : World.drewN wr nq = wr | (rw [ydi wr]; generalize hq_ : World.drewN wr _ = wr)); have n0_ := Aside0.mk (Kd.R_at hq_ HO_3.out); have n1_ := Aside0.mk (yeu hq_ HB.out); clear hq_ HO_3 HB; have HO_3 := n0_; have HB := n1_; clear n0_ n1_; (try (obtain ⟨hxg0_, hfg0_⟩ := Kd.ydb 0 HO_3.out ((ji25) : Int) (of_eq_true p28) (of_eq_true q28))); (try (have HP30 := Kd.yej HO_3.out ((ji25) : Int) (((((rd x3_1 (ji25)) * 16) % 256) + ((x6_2) % 256)) % 256))))); refine ycw (t := 5) (p := 61) (v := ?vo_w31) (w1 := (wr.setCell ⟨go28, ((ji25) : Int).toNat, none⟩ (.int .u8 (((((rd x3_1 (ji25)) * 16) % 256) + ((x6_2) % 256)) % 256)))) ?hg ?ho ?hn ?hr ?_; (case ho => rfl); (case hg => rfl); (case hn => rfl); (case hr => first | (go_simp; done) | (go_simp; rfl)); intro w31 hw; have hg : wr.grownBy w31 (some go28) := (by rw [hw]; exact HP30.2); have hp_ : Kd.R (Kd.int .u8) 5 w31 w.heap.size (fun _ => True) (.slice (some ⟨go28, 0, none⟩) x3_1.length co29) y1013 := (by rw [hw, Ny1013.out]; exact HP30.1); clear HP30; have n0_ := Aside0.mk (hp_); have n1_ := Aside0.mk ((by rw [hw]; exact ybx (HB.out) GB28.out : Below w.heap.size w w31)); clear HO_3; clear HB; have HO_3 := n0_; have HB := n1_; clear n0_ n1_; clear hg hw hp_)))
                 go_roundg k2
                 case measure => have := HK1.out; have := HK2.out; omega
                 case rel => exact ⟨(y1013), (wrap64 (x5_1 + 1)), Z27_, H', ⟨by have := HK1.out; have := HK2.out; omega⟩, ⟨by (with_reducible repeat (first | apply Kd.yba | apply Kd.yaz | apply Kd.ybi)); exact HO_3.out⟩, ⟨by repeat (first | (with_reducible first | exact HB.out | apply yad | apply yab | apply yac) | exact HB.out)⟩⟩
               · rw [if_neg c27] at H
                 exact absurd H (by simp)
             · rw [if_neg c26] at H
               exact absurd H (by simp)
   · rw [if_neg c2] at H
     have c2b0 : decide (x5_1 < (a0.size : Int)) = false := decide_eq_false c2
     clear c2
     replace H := Option.bind_eq_some_iff.mp H
     obtain ⟨t1001, A320, H⟩ := H
     replace H : (some t1001) = some r := H
     have A32 := Aside0.mk A320
     clear A320
     obtain rfl := Option.some.inj H
     obtain ⟨Ao33, co33, eo33⟩ := Kd.ybc HO_3.out
     subst eo33
     go_wp2_with (first | (go_at_call 56; (with_reducible refine (yak.calls k1 _ _ x3_1 t1001 _ ?side1 ?side2 A32.out).mono ?_); (case side1 => repeat (first | exact (Kd.R_reads' HO_3.out).2.2 | (with_reducible refine Kd.yau ?_ _) | (with_reducible refine Kd.yaw ?_ _) | (with_reducible refine Kd.ybe ?_))); (case side2 => exact (Kd.R_reads' HO_3.out).2.1); rintro e w34 ⟨v1002, rfl, ho0, hb⟩; have n0_ := Aside0.mk (Kd.ycc Z18_ hb); have n1_ := Aside0.mk (Kd.ybl ho0 (yaj Z7_)); have n2_ := Aside0.mk (yai Z7_ hb); clear HO_3; clear HB; have HO_3 := n0_; have HO1003 := n1_; have HB := n2_; clear n0_ n1_ n2_; (try clear hb); (try clear hb2); (try clear hk); (try clear hi); (try clear ho0)))
     repeat (go_quiet (first | (go_at_call 56; (with_reducible refine (yak.calls k1 _ _ x3_1 t1001 _ ?side1 ?side2 A32.out).mono ?_); (case side1 => repeat (first | exact (Kd.R_reads' HO_3.out).2.2 | (with_reducible refine Kd.yau ?_ _) | (with_reducible refine Kd.yaw ?_ _) | (with_reducible refine Kd.ybe ?_))); (case side2 => exact (Kd.R_reads' HO_3.out).2.1); rintro e w34 ⟨v1002, rfl, ho0, hb⟩; (try clear A32); have n0_ := Aside0.mk (Kd.ycc Z18_ hb); have n1_ := Aside0.mk (Kd.ybl ho0 (yaj Z7_)); have n2_ := Aside0.mk (yai Z7_ hb); clear HO_3; clear HB; have HO_3 := n0_; have HO1003 := n1_; have HB := n2_; clear n0_ n1_ n2_; (try clear hb); (try clear hb2); (try clear hk); (try clear hi); (try clear ho0))); try go_wp2_with (first | (go_at_call 56; (with_reducible refine (yak.calls k1 _ _ x3_1 t1001 _ ?side1 ?side2 A32.out).mono ?_); (case side1 => repeat (first | exact (Kd.R_reads' HO_3.out).2.2 | (with_reducible refine Kd.yau ?_ _) | (with_reducible refine Kd.yaw ?_ _) | (with_reducible refine Kd.ybe ?_))); (case side2 => exact (Kd.R_reads' HO_3.out).2.1); rintro e w34 ⟨v1002, rfl, ho0, hb⟩; (try clear A32); have n0_ := Aside0.mk (Kd.ycc Z18_ hb); have n1_ := Aside0.mk (Kd.ybl ho0 (yaj Z7_)); have n2_ := Aside0.mk (yai Z7_ hb); clear HO_3; clear HB; have HO_3 := n0_; have HO1003 := n1_; have HB := n2_; clear n0_ n1_ n2_; (try clear hb); (try clear hb2); (try clear hk); (try clear hi); (try clear ho0))))
     go_ret
     exact ⟨_, by first | rfl | (simp [yap, yao] <;> rfl) | (simp [*, yap, yao] <;> rfl), by (with_reducible repeat (first | apply Kd.yba | apply Kd.yaz | apply Kd.ybi)); exact HO1003.out, by repeat (first | (with_reducible first | exact HB.out | apply yad | apply yab | apply yac) | exact HB.out)⟩
end Go.Proofs.Ytgnaaaliadiekaa.B
end
