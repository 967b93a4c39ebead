/- A part of the proof (merged by pack.py, a program of this session: what the row's proof names). -/
import Derived.Test.YtgnaaaliadiekaaM4
import Derived.Test.YtgnaaaliadiekaaM5
import Derived.Test.YtgnaaaliadiekaaM0
section
namespace Go.Proofs.Ytgnaaaliadiekaa.B
open Go.RowKit Go.Proofs.YtgnaaaliadiekaaW.PrintWords Go.Proofs.YtgnaaaliadiekaaW.PrintLast Go.Proofs.YtgnaaaliadiekaaW.PrintMore
attribute [local go_sem] ycj ych ycs ycr ybw ybv yci ycg   -- for this text's walks alone
attribute [local go_sem] yca ybn ybz ybm
set_option linter.unusedVariables false
set_option linter.unusedSimpArgs false
def yak.l0 : Nat → List Int → List Int → Int → Option (List Int)
 | 0, _, _, _ => none
 | k + 1, x0, x3, x4 => if x4 < (x0.length : Int) then (if (Int.tmod x4 2) = 0 then (if 0 ≤ (wrap64 ((wrap64 ((x0.length : Int) - 1)) - x4)) then (if (wrap64 ((wrap64 ((x0.length : Int) - 1)) - x4)) < (x0.length : Int) then (if x3.length < 17592186044416 then (yak.l0 k x0 (x3 ++ [wrap64 (rd x0 (wrap64 ((wrap64 ((x0.length : Int) - 1)) - x4)))]) (wrap64 (x4 + 1))) else (none)) else (none)) else (none)) else (if 0 ≤ (wrap64 (Int.tdiv x4 2)) then (if (wrap64 (Int.tdiv x4 2)) < (x3.length : Int) then (if 0 ≤ (wrap64 ((wrap64 ((x0.length : Int) - 1)) - x4)) then (if (wrap64 ((wrap64 ((x0.length : Int) - 1)) - x4)) < (x0.length : Int) then (yak.l0 k x0 (x3.set ((wrap64 (Int.tdiv x4 2)) : Int).toNat (wrap64 ((rd x3 (wrap64 (Int.tdiv x4 2))) + (wrap64 (256 * (wrap64 (rd x0 (wrap64 ((wrap64 ((x0.length : Int) - 1)) - x4))))))))) (wrap64 (x4 + 1))) else (none)) else (none)) else (none)) else (none))) else ((yam.f k x3).bind fun t1008 => (some t1008))
def yak.f (k : Nat) (l0 : List Int) : Option (List Int) := yak.l0 k l0 ([] : List Int) 0
theorem yak.ygs : ∀ k, (∀ y0 y1 y2, LeO (yak.l0 k y0 y1 y2) (yak.l0 (k + 1) y0 y1 y2))
 | 0 => fun _ _ _ r h => by simp [yak.l0] at h
 | k + 1 => by
  have ih0 := yak.ygs k
  · intro y0 y1 y2
    unfold yak.l0
    repeat' first
    | (with_reducible exact ih0 _ _ _)
    | (with_reducible exact yam.mono _ _)
    | (with_reducible exact LeO.refl _)
    | (with_reducible exact LeO.none _)
    | (with_reducible refine LeO.ite ?_ ?_)
    | (with_reducible refine LeO.bind ?_ (fun _ => ?_))
    | exact ih0 _ _ _
    | exact yam.mono _ _
    | exact LeO.none _
    | refine LeO.ite ?_ ?_
    | refine LeO.bind ?_ (fun _ => ?_)
theorem yak.mono : ∀ a0 k, LeO (yak.f k a0) (yak.f (k + 1) a0) := by
 intro a0 k
 have ih0 := yak.ygs k
 unfold yak.f
 repeat' first
  | (with_reducible exact ih0 _ _ _)
  | (with_reducible exact yam.mono _ _)
  | (with_reducible exact LeO.refl _)
  | (with_reducible exact LeO.none _)
  | (with_reducible refine LeO.ite ?_ ?_)
  | (with_reducible refine LeO.bind ?_ (fun _ => ?_))
  | exact ih0 _ _ _
  | exact yam.mono _ _
  | exact LeO.none _
  | refine LeO.ite ?_ ?_
  | refine LeO.bind ?_ (fun _ => ?_)
def yak.T8 : Bool × List (List Nat × List Nat) := (true, [([], []), ([], []), ([1], [1]), ([], []), ([], []), ([4], [4]), ([3, 5], [3, 5]), ([6], [6]), ([], []), ([], []), ([8, 9], [8, 9]), ([10], [10]), ([11], [11]), ([12], [12]), ([7, 13], [7, 13]), ([0, 2, 0, 1, 2, 3, 4, 5, 6, 7, 8, 9, 10, 11, 12, 13, 14], [0, 2]), ([15, 14, 0, 1, 2, 3, 4, 5, 6, 7, 8, 9, 10, 11, 12, 13, 14], [14, 15])])
def yak.B8 : List Nat := [0, 0, 2, 0, 0, 16, 56, 120, 0, 0, 768, 1792, 3840, 7936, 16376, 32767, 65535]
theorem yak.tab8 : rtab .any (opsOf Try.f56 8) = yak.T8 := by kernel_rfl
theorem yak.bits8 : yfg yak.T8.2 yak.B8 = true := by kernel_rfl
set_option maxHeartbeats 8000000 in
set_option maxRecDepth 100000 in
theorem yak.calls (k : Nat) (A0 : Option Addr) (c0 : Nat) (l0 : List Int) (r : List Int) (w : World) (hr0 : Kd.C (Kd.int .u8) w A0 l0.length l0) (hc0 : l0.length ≤ c0) (h : yak.f k l0 = some r) :
 Calls Try.prog 56 #[.slice A0 l0.length c0] w fun e w' => ∃ v0_ : Value, e = .returned (v0_) ∧ Kd.R (Kd.int .i64) 3 w' w.heap.size (fun _ => True) v0_ r ∧ Below w.heap.size w w' := by
 have HR0 := Aside0.mk hr0
 have HC0 := Aside0.mk hc0
 clear hr0 hc0
 have HB := Aside0.mk (Below.refl w.heap.size w)
 have H : (yak.l0 k l0 ([] : List Int) 0) = some r := h
 clear h
 have H' := Aside0.mk H
 clear H
 go_enter Try.func56, Try.ntmps56
 go_wp2
 go_loopg [3, 4] k (fun kq v3 v4 w' => ∃ (x3_1 : List Int) (x4_1 : Int), v4 = .int .i64 x4_1 ∧ Aside0 (yak.l0 kq l0 x3_1 x4_1 = some r) ∧ Aside0 (kq ≤ k) ∧ Aside0 (Kd.R (Kd.int .i64) 3 w' w.heap.size (fun _ => True) v3 x3_1) ∧ Aside0 (Below w.heap.size w w'))
 case atStart => exact ⟨(([] : List Int)), (0), Z27_, H', ⟨Nat.le_refl _⟩, ⟨by first | exact Kd.yfv _ _ _ _ _ | exact Kd.yid _ _ _ _ _ | exact Kd.yia _ _ _ _ _ | exact Kd.yic _ _ _ _ _ | exact Kd.yib _ _ _ _ _⟩, ⟨by repeat (first | (with_reducible first | exact HB.out | apply yad | apply yab | apply yac) | exact HB.out)⟩⟩
 case round =>
  clear H'
  obtain ⟨x3_1, x4_1, rfl, HA, HK1, HO_3, HB⟩ := hrel
  cases gk with
  | zero => exact absurd HA.out (by simp [yak.l0])
  | succ k1 =>
   have H := HA.out
   clear HA
   simp only [yak.l0] at H
   by_cases c2 : x4_1 < (l0.length : Int)
   · rw [if_pos c2] at H
     have c2b0 : decide (x4_1 < (l0.length : Int)) = true := decide_eq_true c2
     clear c2
     by_cases c3 : (Int.tmod x4_1 2) = 0
     · rw [if_pos c3] at H
       have c3b0 : ((Int.tmod x4_1 2) == 0) = true := beq_iff_eq.mpr c3
       have c3b1 : ((Int.tmod x4_1 2) != 0) = false := bne_eq_false_iff_eq.mpr c3
       clear c3
       obtain ⟨ji4, hji4⟩ : ∃ j_ : Int, (wrap64 ((wrap64 ((l0.length : Int) - 1)) - x4_1)) = j_ := ⟨_, rfl⟩
       replace H : (if 0 ≤ (ji4) then (if (ji4) < (l0.length : Int) then (if x3_1.length < 17592186044416 then (yak.l0 k1 l0 (x3_1 ++ [wrap64 (rd l0 (ji4))]) (wrap64 (x4_1 + 1))) else (none)) else (none)) else (none)) = some r := by first | (rw [hji4] at H; exact H) | (simp only [hji4] at H ⊢; exact H)
       have hji4w : (IntKind.i64.wrap ((wrap64 ((l0.length : Int) - 1)) - x4_1)) = ji4 := (ydk _).trans hji4
       by_cases c5 : 0 ≤ (ji4)
       · rw [if_pos c5] at H
         have c5b0 : decide (0 ≤ (ji4)) = true := decide_eq_true c5
         clear c5
         by_cases c6 : (ji4) < (l0.length : Int)
         · rw [if_pos c6] at H
           have c6b0 : decide ((ji4) < (l0.length : Int)) = true := decide_eq_true c6
           clear c6
           by_cases c7 : x3_1.length < 17592186044416
           · rw [if_pos c7] at H
             have LMc7 := Aside0.mk c7
             clear c7
             obtain ⟨y1002, hy1002⟩ : ∃ y_ : List Int, y_ = (x3_1 ++ [wrap64 (rd l0 (ji4))]) := ⟨_, rfl⟩
             replace H : (yak.l0 k1 l0 y1002 (wrap64 (x4_1 + 1))) = some r := by first | (rw [hy1002]; with_reducible exact H) | (have H2_ := (Option.bind_some _ _).symm.trans H; rw [hy1002]; with_reducible exact H2_) | (have H2_ := (Option.bind_some _ _).symm.trans H; with_reducible exact H2_) | with_reducible exact H | (rw [hy1002]; exact H) | exact H
             have Ny1002 := Aside0.mk hy1002
             clear hy1002
             have H' := Aside0.mk H
             clear H
             have p1001 : 0 ≤ ((ji4) : Int) := of_decide_eq_true Z26_
             have q1001 : (ji4) < (l0.length : Int) := of_decide_eq_true Z26_
             obtain ⟨ad1001, e1001, hx1001_0⟩ := Kd.ybs HR0.out (ji4) p1001 q1001
             cases e1001
             replace hx1001_0 := (HB.out.cell (World.block_lt_of_cell? w _ hx1001_0)).trans hx1001_0
             replace p1001 := eq_true p1001
             replace q1001 := eq_true q1001
             go_wp2_with (first | ((with_reducible refine ycl (b := .append) (xs := #[.tmp 20, .tmp 26]) rfl ?_); at_builtin; refine Kd.ydz (Kd.int .i64) (w0 := w) w.heap.size rfl (.tmp 20) (.tmp 26) 28 3 (.int .i64 0) 8 rfl Try.underlying28 info3 rfl (by decide) (by omega) u3 x3_1 (wrap64 (rd l0 (ji4))) [.int .i64 (wrap64 (rd l0 (ji4)))] (fun _ => True) (fun _ => False) rfl rfl ?aP (fun _ hk => hk.elim) ?aF ?aO ?aB ?aS ?aL ?_; (case aP => exact rfl); (case aB => exact Z7_); (case aF => exact (fun _ _ => trivial)); (case aO => exact Z18_); (case aS => exact (yaj Z7_)); (case aL => have := LMc7.out; omega); intro v1003 w8 ho hb hg hat; rw [← Ny1002.out] at ho; have n0_ := Aside0.mk (hb); have n1_ := Aside0.mk (ho); clear HB; clear HO_3; have HB := n0_; have HO1004 := n1_; clear n0_ n1_; clear ho hb hg hat))
             go_roundg k1
             case measure => have := HK1.out; omega
             case rel => exact ⟨(y1002), (wrap64 (x4_1 + 1)), Z27_, H', ⟨by have := HK1.out; omega⟩, ⟨by (with_reducible repeat (first | apply Kd.yba | apply Kd.yaz | apply Kd.ybi)); exact HO1004.out⟩, ⟨by repeat (first | (with_reducible first | exact HB.out | apply yad | apply yab | apply yac) | exact HB.out)⟩⟩
           · rw [if_neg c7] at H
             exact absurd H (by simp)
         · rw [if_neg c6] at H
           exact absurd H (by simp)
       · rw [if_neg c5] at H
         exact absurd H (by simp)
     · rw [if_neg c3] at H
       have c3b0 : ((Int.tmod x4_1 2) == 0) = false := beq_eq_false_iff_ne.mpr c3
       have c3b1 : ((Int.tmod x4_1 2) != 0) = true := bne_iff_ne.mpr c3
       obtain ⟨ji9, hji9⟩ : ∃ j_ : Int, (wrap64 (Int.tdiv x4_1 2)) = j_ := ⟨_, rfl⟩
       replace H : (if 0 ≤ (ji9) then (if (ji9) < (x3_1.length : Int) then (if 0 ≤ (wrap64 ((wrap64 ((l0.length : Int) - 1)) - x4_1)) then (if (wrap64 ((wrap64 ((l0.length : Int) - 1)) - x4_1)) < (l0.length : Int) then (yak.l0 k1 l0 (x3_1.set ((ji9) : Int).toNat (wrap64 ((rd x3_1 (ji9)) + (wrap64 (256 * (wrap64 (rd l0 (wrap64 ((wrap64 ((l0.length : Int) - 1)) - x4_1))))))))) (wrap64 (x4_1 + 1))) else (none)) else (none)) else (none)) else (none)) = some r := by first | (rw [hji9] at H; exact H) | (simp only [hji9] at H ⊢; exact H)
       have hji9w : (IntKind.i64.wrap (Int.tdiv x4_1 2)) = ji9 := (ydk _).trans hji9
       by_cases c10 : 0 ≤ (ji9)
       · rw [if_pos c10] at H
         have c10b0 : decide (0 ≤ (ji9)) = true := decide_eq_true c10
         clear c10
         by_cases c11 : (ji9) < (x3_1.length : Int)
         · rw [if_pos c11] at H
           have c11b0 : decide ((ji9) < (x3_1.length : Int)) = true := decide_eq_true c11
           clear c11
           obtain ⟨ji12, hji12⟩ : ∃ j_ : Int, (wrap64 ((wrap64 ((l0.length : Int) - 1)) - x4_1)) = j_ := ⟨_, rfl⟩
           (try (have hji12eji4 := hji12; rw [hji4] at hji12eji4))
           replace H : (if 0 ≤ (ji12) then (if (ji12) < (l0.length : Int) then (yak.l0 k1 l0 (x3_1.set ((ji9) : Int).toNat (wrap64 ((rd x3_1 (ji9)) + (wrap64 (256 * (wrap64 (rd l0 (ji12)))))))) (wrap64 (x4_1 + 1))) else (none)) else (none)) = some r := by first | (rw [hji12] at H; exact H) | (simp only [hji12] at H ⊢; exact H)
           have hji12w : (IntKind.i64.wrap ((wrap64 ((l0.length : Int) - 1)) - x4_1)) = ji12 := (ydk _).trans hji12
           by_cases c13 : 0 ≤ (ji12)
           · rw [if_pos c13] at H
             have c13b0 : decide (0 ≤ (ji12)) = true := decide_eq_true c13
             clear c13
             by_cases c14 : (ji12) < (l0.length : Int)
             · rw [if_pos c14] at H
               have c14b0 : decide ((ji12) < (l0.length : Int)) = true := decide_eq_true c14
               clear c14
               obtain ⟨y1007, hy1007⟩ : ∃ y_ : List Int, y_ = (x3_1.set ((ji9) : Int).toNat (wrap64 ((rd x3_1 (ji9)) + (wrap64 (256 * (wrap64 (rd l0 (ji12)))))))) := ⟨_, rfl⟩
               replace H : (yak.l0 k1 l0 y1007 (wrap64 (x4_1 + 1))) = some r := by first | (rw [hy1007]; with_reducible exact H) | (have H2_ := (Option.bind_some _ _).symm.trans H; rw [hy1007]; with_reducible exact H2_) | (have H2_ := (Option.bind_some _ _).symm.trans H; with_reducible exact H2_) | with_reducible exact H | (rw [hy1007]; exact H) | exact H
               have Ny1007 := Aside0.mk hy1007
               clear hy1007
               have H' := Aside0.mk H
               clear H
               try go_wp2
               have n0_ := Aside0.mk (Kd.ybi HO_3.out)
               have n1_ := Aside0.mk (yac HB.out)
               clear HO_3
               clear HB
               have HO_3 := n0_
               have HB := n1_
               clear n0_ n1_
               obtain ⟨Ao17, co17, eo17⟩ := Kd.ybc HO_3.out
               (first | subst eo17 | (injection eo17 with f1_ f2_ f3_; have f4_ := f1_.symm; have f5_ := f3_.symm; clear f1_ f2_ f3_; subst f4_; subst f5_))
               have p1005 : 0 ≤ ((ji9) : Int) := of_decide_eq_true Z26_
               have q1005 : (ji9) < (x3_1.length : Int) := of_decide_eq_true Z26_
               obtain ⟨ad1005, e1005, hx1005_0⟩ := Kd.ybs (Kd.R_reads' HO_3.out).2.2 (ji9) p1005 q1005
               cases e1005
               replace p1005 := eq_true p1005
               replace q1005 := eq_true q1005
               have p1006 : 0 ≤ ((ji12) : Int) := of_decide_eq_true Z26_
               have q1006 : (ji12) < (l0.length : Int) := of_decide_eq_true Z26_
               obtain ⟨ad1006, e1006, hx1006_0⟩ := Kd.ybs HR0.out (ji12) p1006 q1006
               have hw1006_0 := hx1006_0
               cases e1006
               replace hx1006_0 := (HB.out.cell (World.block_lt_of_cell? w _ hx1006_0)).trans hx1006_0
               replace p1006 := eq_true p1006
               replace q1006 := eq_true q1006
               have p15 : 0 ≤ ((ji9) : Int) := of_decide_eq_true Z26_
               have q15 : ((ji9) : Int) < ((x3_1.length : Int) : Int) := of_decide_eq_true Z26_
               obtain ⟨go15, co15, eo15, gb15, gl15, cl15, HG15⟩ := Kd.yey HO_3.out (by omega)
               (first | cases eo15 | (injection eo15 with ea_ en_ ec_; (first | subst ea_ | (injection ea_ with ea_; subst ea_)); subst ec_; clear en_))
               have GB15 := Aside0.mk gb15
               have GG15 := Aside0.mk HG15
               clear gb15 gl15 HG15
               (first | simp only [add_plain] at hx1005_0 | skip)
               obtain ⟨hx15_0, hf15_0⟩ := Kd.ydb 0 HO_3.out ((ji9) : Int) p15 q15
               replace p15 := eq_true p15
               replace q15 := eq_true q15
               have HP18 := Kd.R_putn HO_3.out ((ji9) : Int) (wrap64 ((rd x3_1 (ji9)) + (wrap64 (256 * (wrap64 (rd l0 (ji12)))))))
               rw [← Ny1007.out] at HP18
               have HQ18 := Aside0.mk HP18
               clear HP18
               refine yeq (n := 17) (S := fun w' => w'.cell? ⟨go15, ((ji9)).toNat, none⟩ = some (.int .i64 (rd x3_1 (ji9))) ∧ w'.cell? (ad1006.add ((ji12)).toNat) = some (.int .u8 (rd l0 (ji12)))) (ds := [16]) Q50_ (by kernel_rfl) rfl rfl ⟨hx1005_0, ((HB.out.cell (World.block_lt_of_cell? w _ hw1006_0)).trans hw1006_0)⟩ (fun hHeld => ?_); refine yde yak.tab8 yak.bits8 (fun HT_ HW_ => ?_)
               generalize wr.drew = w16 at HO_3 HB GG15 HQ18 hf15_0 hx1005_0 hx1006_0 hx15_0 hHeld ⊢
               refine pV 0 28 Q51_ (yae HT_.out (by kernel_rfl)) ?_
               refine pV 1 29 Q52_ (yae HT_.out (by kernel_rfl)) ?_
               refine pV 2 30 Q53_ (yae HT_.out (by kernel_rfl)) ?_
               refine pV 3 31 Q54_ (yae HT_.out (by kernel_rfl)) ?_
               refine pV 4 32 Q55_ (yae HT_.out (by kernel_rfl)) ?_
               refine pV 5 33 Q56_ (yae HT_.out (by kernel_rfl)) ?_
               refine pV 6 34 Q81_ (yae HT_.out (by kernel_rfl)) ?_
               refine pV 8 36 Q82_ (yae HT_.out (by kernel_rfl)) ?_
               refine pV 9 37 Q83_ (yae HT_.out (by kernel_rfl)) ?_
               refine pV 10 38 Q84_ (yae HT_.out (by kernel_rfl)) ?_
               refine pT2 7 35 Q57_ (ycd HT_.out HW_.out (by kernel_rfl)) hHeld ?_
               refine pT2 11 39 Q58_ (ycd HT_.out HW_.out (by kernel_rfl)) hHeld ?_
               refine pV 12 40 Q59_ (yae HT_.out (by kernel_rfl)) ?_
               refine pV 13 41 Q60_ (yae HT_.out (by kernel_rfl)) ?_
               refine pV 14 42 Q61_ (yae HT_.out (by kernel_rfl)) ?_
               refine pV 15 43 Q62_ (yae HT_.out (by kernel_rfl)) ?_
               refine last_ (i := 16) (N := none) Q63_ rfl rfl (ydr HT_.out (by kernel_rfl)) (by decide) (fun K hK => ?_)
               refine skip_ (w1 := ?_) (by rfl) rfl ?_ ?_
               rotate_left
               · go_simp
                 rfl
               refine hK.out _ _ ?_
               clear hK K
               refine yfk (ydx HT_.out (by kernel_rfl)) ?_
               try go_wp2
               go_roundg k1
               case measure => have := HK1.out; omega
               case rel => exact ⟨(y1007), (wrap64 (x4_1 + 1)), Z27_, H', ⟨by have := HK1.out; omega⟩, ⟨by (with_reducible repeat (first | apply Kd.yba | apply Kd.yaz | apply Kd.ybi)); exact HQ18.out⟩, ⟨by repeat (first | (with_reducible first | exact HB.out | apply yad | apply yab | apply yac | refine ybx ?_ GB15.out) | exact HB.out)⟩⟩
             · rw [if_neg c14] at H
               exact absurd H (by simp)
           · rw [if_neg c13] at H
             exact absurd H (by simp)
         · rw [if_neg c11] at H
           exact absurd H (by simp)
       · rw [if_neg c10] at H
         exact absurd H (by simp)
   · rw [if_neg c2] at H
     have c2b0 : decide (x4_1 < (l0.length : Int)) = false := decide_eq_false c2
     clear c2
     replace H := Option.bind_eq_some_iff.mp H
     obtain ⟨t1008, A190, H⟩ := H
     replace H : (some t1008) = some r := H
     have A19 := Aside0.mk A190
     clear A190
     obtain rfl := Option.some.inj H
     obtain ⟨Ao20, co20, eo20⟩ := Kd.ybc HO_3.out
     subst eo20
     go_wp2_with (first | ((with_reducible refine yar (f := 43) rfl ?_); refine yce (some 45) rfl rfl Try.func43 (by kernel_rfl) rfl #[.slice Ao20 x3_1.length co20] rfl Z6_ ?_; (with_reducible refine (yam.calls k1 (fun k_ => some k_ = (.slice Ao20 x3_1.length co20 : Value).ownBlock) (.slice Ao20 x3_1.length co20) x3_1 t1008 w _ ?side1 ?side2 A19.out).mono ?_); (case side1 => repeat (first | (with_reducible first | exact HB.out | apply yad | apply yab | apply yac) | exact HB.out)); (case side2 => exact Kd.yfh rfl HO_3.out); rintro e w21 ⟨v1009, rfl, ho0, hb, hkp⟩; refine ⟨_, rfl, ?_⟩; have n0_ := Aside0.mk (Kd.ycn (ok' := fun k_ => True) ho0 (fun k_ hk_ => trivial)); have n1_ := Aside0.mk (hb); clear HB; clear HO_3; have HO1010 := n0_; have HB := n1_; clear n0_ n1_; (try clear hb); (try clear hkp); (try clear ho0)))
     go_ret
     exact ⟨_, by first | rfl | (simp [yap, yao] <;> rfl) | (simp [*, yap, yao] <;> rfl), by (with_reducible repeat (first | apply Kd.yba | apply Kd.yaz | apply Kd.ybi)); exact HO1010.out, by repeat (first | (with_reducible first | exact HB.out | apply yad | apply yab | apply yac) | exact HB.out)⟩
end Go.Proofs.Ytgnaaaliadiekaa.B
end
