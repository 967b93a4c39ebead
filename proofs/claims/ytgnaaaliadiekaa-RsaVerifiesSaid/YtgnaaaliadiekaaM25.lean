/- A part of the proof (merged by pack.py, a program of this session: what the row's proof names). -/
import Derived.Test.YtgnaaaliadiekaaM4
import Derived.Test.YtgnaaaliadiekaaM11
import Derived.Test.YtgnaaaliadiekaaM13
import Derived.Test.YtgnaaaliadiekaaM0
section
namespace Go.Proofs.Ytgnaaaliadiekaa.B
open Go.RowKit Go.Proofs.YtgnaaaliadiekaaW.PrintWords Go.Proofs.YtgnaaaliadiekaaW.PrintLast Go.Proofs.YtgnaaaliadiekaaW.PrintMore
attribute [local go_sem] ycj ych ycs ycr ybw ybv yci ycg   -- for this text's walks alone
attribute [local go_sem] yca ybn ybz ybm
set_option linter.unusedVariables false
set_option linter.unusedSimpArgs false
def ycv.l0 : Nat → List Int → List Int → Int → Int → Option (List Int × Int)
 | 0, _, _, _, _ => none
 | k + 1, x0, x4, x15, x16 => if x16 < x15 then (if 0 ≤ (wrap64 (Int.tdiv x16 8)) then (if (wrap64 (Int.tdiv x16 8)) < (x4.length : Int) then (if 0 ≤ (wrap64 ((wrap64 ((x0.length : Int) - 1)) - x16)) then (if (wrap64 ((wrap64 ((x0.length : Int) - 1)) - x16)) < (x0.length : Int) then (if 0 ≤ (wrap64 (8 * (Int.tmod x16 8))) then (ycv.l0 k x0 (x4.set ((wrap64 (Int.tdiv x16 8)) : Int).toNat (Go.bits .or .u64 (rd x4 (wrap64 (Int.tdiv x16 8))) (shl .u64 (IntKind.u64.wrap (rd x0 (wrap64 ((wrap64 ((x0.length : Int) - 1)) - x16)))) (wrap64 (8 * (Int.tmod x16 8)))))) x15 (wrap64 (x16 + 1))) else (none)) else (none)) else (none)) else (none)) else (none)) else ((ybr.f k x4).bind fun t1007 => (some (t1007, 0)))
def ycv.f (k : Nat) (l0 : List Int) : Option (List Int × Int) := if (l0.length : Int) > 512 then (some (([] : List Int), 3)) else (if 0 ≤ (wrap64 (Int.tdiv (wrap64 ((l0.length : Int) + 7)) 8)) then (if (wrap64 (Int.tdiv (wrap64 ((l0.length : Int) + 7)) 8) : Int).toNat ≤ 35184372088832 then (ycv.l0 k l0 (List.replicate (wrap64 (Int.tdiv (wrap64 ((l0.length : Int) + 7)) 8) : Int).toNat 0) (l0.length : Int) 0) else (none)) else (none))
def ycv.T7 : Bool × List (List Nat × List Nat) := (true, [([], []), ([], []), ([1], [1]), ([0, 2], [0, 2]), ([3], [3]), ([], []), ([], []), ([6], [6]), ([7], [7]), ([], []), ([8, 9], [8, 9]), ([5, 10], [5, 10]), ([11], [11]), ([12], [12]), ([], []), ([14], [14]), ([15], [15]), ([13, 16], [13, 16]), ([4, 17], [4, 17]), ([0, 2, 0, 1, 2, 3, 4, 5, 6, 7, 8, 9, 10, 11, 12, 13, 14, 15, 16, 17, 18], [0, 2]), ([19, 18, 0, 1, 2, 3, 4, 5, 6, 7, 8, 9, 10, 11, 12, 13, 14, 15, 16, 17, 18], [18, 19])])
def ycv.B7 : List Nat := [0, 0, 2, 7, 15, 0, 0, 64, 192, 0, 960, 2016, 4064, 8160, 0, 16384, 49152, 131040, 262143, 524287, 1048575]
theorem ycv.tab7 : rtab .any (opsOf Try.f20 7) = ycv.T7 := by kernel_rfl
theorem ycv.bits7 : yfg ycv.T7.2 ycv.B7 = true := by kernel_rfl
set_option maxHeartbeats 8000000 in
set_option maxRecDepth 100000 in
theorem ycv.calls (k : Nat) (A0 : Option Addr) (c0 : Nat) (l0 : List Int) (r1 : List Int) (r2 : Int) (w : World) (hr0 : Kd.C (Kd.int .u8) w A0 l0.length l0) (hc0 : l0.length ≤ c0) (h : ycv.f k l0 = some (r1, r2)) :
 Calls Try.prog 20 #[.slice A0 l0.length c0] w fun e w' => ∃ v0_ : Value, e = .returned (.tuple #[v0_, .int .i64 r2]) ∧ Kd.R (Kd.int .u64) 61 w' w.heap.size (fun _ => True) v0_ r1 ∧ Below w.heap.size w w' := by
 have HR0 := Aside0.mk hr0
 have HC0 := Aside0.mk hc0
 clear hr0 hc0
 have HB := Aside0.mk (Below.refl w.heap.size w)
 have H : (if (l0.length : Int) > 512 then (some (([] : List Int), 3)) else (if 0 ≤ (wrap64 (Int.tdiv (wrap64 ((l0.length : Int) + 7)) 8)) then (if (wrap64 (Int.tdiv (wrap64 ((l0.length : Int) + 7)) 8) : Int).toNat ≤ 35184372088832 then (ycv.l0 k l0 (List.replicate (wrap64 (Int.tdiv (wrap64 ((l0.length : Int) + 7)) 8) : Int).toNat 0) (l0.length : Int) 0) else (none)) else (none))) = some (r1, r2) := h
 clear h
 by_cases c2 : (l0.length : Int) > 512
 · rw [if_pos c2] at H
   have c2b0 : decide (512 < (l0.length : Int)) = true := decide_eq_true c2
   have c2b1 : decide (512 < l0.length) = true := decide_eq_true (by omega)
   clear c2
   simp only [Option.some.injEq, Prod.mk.injEq] at H
   obtain ⟨rfl, rfl⟩ := H
   go_enter Try.func20, Try.ntmps20
   go_wp2
   go_ret2
   exact ⟨_, by first | rfl | (simp [yap, yao] <;> rfl) | (simp [*, yap, yao] <;> rfl), by first | exact Kd.yfv _ _ _ _ _ | exact Kd.yid _ _ _ _ _ | exact Kd.yia _ _ _ _ _ | exact Kd.yic _ _ _ _ _ | exact Kd.yib _ _ _ _ _, by repeat (first | (with_reducible first | exact HB.out | apply yad | apply yab | apply yac) | exact HB.out)⟩
 · rw [if_neg c2] at H
   have c2b0 : decide (512 < (l0.length : Int)) = false := decide_eq_false c2
   have c2b1 : decide (512 < l0.length) = false := decide_eq_false (by omega)
   clear c2
   obtain ⟨ji3, hji3⟩ : ∃ j_ : Int, (wrap64 (Int.tdiv (wrap64 ((l0.length : Int) + 7)) 8)) = j_ := ⟨_, rfl⟩
   replace H : (if 0 ≤ (ji3) then (if (ji3 : Int).toNat ≤ 35184372088832 then (ycv.l0 k l0 (List.replicate (ji3 : Int).toNat 0) (l0.length : Int) 0) else (none)) else (none)) = some (r1, r2) := by first | (rw [hji3] at H; exact H) | (simp only [hji3] at H ⊢; exact H)
   have hji3w : (IntKind.i64.wrap (Int.tdiv (wrap64 ((l0.length : Int) + 7)) 8)) = ji3 := (ydk _).trans hji3
   by_cases c4 : 0 ≤ (ji3)
   · rw [if_pos c4] at H
     have c4b0 := eq_true c4
     have c4b1 : decide (0 ≤ (ji3)) = true := decide_eq_true c4
     clear c4
     by_cases c5 : (ji3 : Int).toNat ≤ 35184372088832
     · rw [if_pos c5] at H
       have c5b0 := eq_true c5
       have c5b1 : decide ((ji3 : Int).toNat ≤ 35184372088832) = true := decide_eq_true c5
       clear c5
       obtain ⟨y1001, hy1001⟩ : ∃ y_ : List Int, y_ = (List.replicate (ji3 : Int).toNat 0) := ⟨_, rfl⟩
       replace H : (ycv.l0 k l0 y1001 (l0.length : Int) 0) = some (r1, r2) := by first | (rw [hy1001]; with_reducible exact H) | (have H2_ := (Option.bind_some _ _).symm.trans H; rw [hy1001]; with_reducible exact H2_) | (have H2_ := (Option.bind_some _ _).symm.trans H; with_reducible exact H2_) | with_reducible exact H | (rw [hy1001]; exact H) | exact H
       have Ny1001 := Aside0.mk hy1001
       clear hy1001
       have H' := Aside0.mk H
       clear H
       go_enter Try.func20, Try.ntmps20
       go_wp2_with (first | ((with_reducible refine ybu (N := 13) rfl ?_); refine Kd.yhb (Kd.int .u64) _ 61 rfl (N := 13) rfl 23 _ _ rfl ji3 rfl rfl Try.underlying23 (.int .u64 0) 8 ygd rfl (by decide) (by omega) 0 (ok := fun _ => True) (okp := fun _ => True) rfl (fun _ hk => hk) trivial (of_decide_eq_true Z26_) (Nat.le_trans (Nat.mul_le_mul_right _ (of_decide_eq_true Z26_ : ji3.toNat ≤ 35184372088832)) (by omega)) (Below.refl _ _) (Nat.le_refl _) ?_; intro v1002 w6 ho7 hb hg_ hnew_; clear hg_ hnew_; (first | rw [← Ny1001.out] at ho7 | (simp only [Int.reduceToNat] at ho7; rw [← Ny1001.out] at ho7)); have n0_ := Aside0.mk (Kd.ybl ho7 (yaj Z7_)); have n1_ := Aside0.mk (yai Z7_ hb); clear HB; have HO1003 := n0_; have HB := n1_; clear n0_ n1_; clear hb ho7))
       go_loopg [16] k (fun kq v16 w' => ∃ (x4_1 : List Int) (x16_1 : Int), v16 = .int .i64 x16_1 ∧ Aside0 (ycv.l0 kq l0 x4_1 (l0.length : Int) x16_1 = some (r1, r2)) ∧ Aside0 (kq ≤ k) ∧ Aside0 (Kd.R (Kd.int .u64) 61 w' w.heap.size (fun _ => True) v1002 x4_1) ∧ Aside0 (Below w.heap.size w w'))
       case atStart => exact ⟨(y1001), (0), Z27_, H', ⟨Nat.le_refl _⟩, ⟨by (with_reducible repeat (first | apply Kd.yba | apply Kd.yaz | apply Kd.ybi)); exact HO1003.out⟩, ⟨by repeat (first | (with_reducible first | exact HB.out | apply yad | apply yab | apply yac) | exact HB.out)⟩⟩
       case round =>
        clear H'
        try clear c2
        try clear c2b0
        try clear c2b1
        try clear p2
        try clear c4
        try clear c4b0
        try clear c4b1
        try clear c5
        try clear c5b0
        try clear c5b1
        try clear p6
        obtain ⟨x4_1, x16_1, rfl, HA, HK1, HO_4, HB⟩ := hrel
        cases gk with
        | zero => exact absurd HA.out (by simp [ycv.l0])
        | succ k1 =>
         have H := HA.out
         clear HA
         simp only [ycv.l0] at H
         by_cases c8 : x16_1 < (l0.length : Int)
         · rw [if_pos c8] at H
           have c8b0 : decide (x16_1 < (l0.length : Int)) = true := decide_eq_true c8
           clear c8
           obtain ⟨ji9, hji9⟩ : ∃ j_ : Int, (wrap64 (Int.tdiv x16_1 8)) = j_ := ⟨_, rfl⟩
           replace H : (if 0 ≤ (ji9) then (if (ji9) < (x4_1.length : Int) then (if 0 ≤ (wrap64 ((wrap64 ((l0.length : Int) - 1)) - x16_1)) then (if (wrap64 ((wrap64 ((l0.length : Int) - 1)) - x16_1)) < (l0.length : Int) then (if 0 ≤ (wrap64 (8 * (Int.tmod x16_1 8))) then (ycv.l0 k1 l0 (x4_1.set ((ji9) : Int).toNat (Go.bits .or .u64 (rd x4_1 (ji9)) (shl .u64 (IntKind.u64.wrap (rd l0 (wrap64 ((wrap64 ((l0.length : Int) - 1)) - x16_1)))) (wrap64 (8 * (Int.tmod x16_1 8)))))) (l0.length : Int) (wrap64 (x16_1 + 1))) else (none)) else (none)) else (none)) else (none)) else (none)) = some (r1, r2) := by first | (rw [hji9] at H; exact H) | (simp only [hji9] at H ⊢; exact H)
           have hji9w : (IntKind.i64.wrap (Int.tdiv x16_1 8)) = ji9 := (ydk _).trans hji9
           by_cases c10 : 0 ≤ (ji9)
           · rw [if_pos c10] at H
             have c10b0 : decide (0 ≤ (ji9)) = true := decide_eq_true c10
             clear c10
             by_cases c11 : (ji9) < (x4_1.length : Int)
             · rw [if_pos c11] at H
               have c11b0 : decide ((ji9) < (x4_1.length : Int)) = true := decide_eq_true c11
               clear c11
               obtain ⟨ji12, hji12⟩ : ∃ j_ : Int, (wrap64 ((wrap64 ((l0.length : Int) - 1)) - x16_1)) = j_ := ⟨_, rfl⟩
               replace H : (if 0 ≤ (ji12) then (if (ji12) < (l0.length : Int) then (if 0 ≤ (wrap64 (8 * (Int.tmod x16_1 8))) then (ycv.l0 k1 l0 (x4_1.set ((ji9) : Int).toNat (Go.bits .or .u64 (rd x4_1 (ji9)) (shl .u64 (IntKind.u64.wrap (rd l0 (ji12))) (wrap64 (8 * (Int.tmod x16_1 8)))))) (l0.length : Int) (wrap64 (x16_1 + 1))) else (none)) else (none)) else (none)) = some (r1, r2) := by first | (rw [hji12] at H; exact H) | (simp only [hji12] at H ⊢; exact H)
               have hji12w : (IntKind.i64.wrap ((wrap64 ((l0.length : Int) - 1)) - x16_1)) = ji12 := (ydk _).trans hji12
               by_cases c13 : 0 ≤ (ji12)
               · rw [if_pos c13] at H
                 have c13b0 : decide (0 ≤ (ji12)) = true := decide_eq_true c13
                 clear c13
                 by_cases c14 : (ji12) < (l0.length : Int)
                 · rw [if_pos c14] at H
                   have c14b0 : decide ((ji12) < (l0.length : Int)) = true := decide_eq_true c14
                   clear c14
                   obtain ⟨ji15, hji15⟩ : ∃ j_ : Int, (wrap64 (8 * (Int.tmod x16_1 8))) = j_ := ⟨_, rfl⟩
                   replace H : (if 0 ≤ (ji15) then (ycv.l0 k1 l0 (x4_1.set ((ji9) : Int).toNat (Go.bits .or .u64 (rd x4_1 (ji9)) (shl .u64 (IntKind.u64.wrap (rd l0 (ji12))) (ji15)))) (l0.length : Int) (wrap64 (x16_1 + 1))) else (none)) = some (r1, r2) := by first | (rw [hji15] at H; exact H) | (simp only [hji15] at H ⊢; exact H)
                   have hji15w : (IntKind.i64.wrap (8 * (Int.tmod x16_1 8))) = ji15 := (ydk _).trans hji15
                   by_cases c16 : 0 ≤ (ji15)
                   · rw [if_pos c16] at H
                     have c16b0 := eq_true c16
                     have c16b1 : decide (0 ≤ (ji15)) = true := decide_eq_true c16
                     clear c16
                     obtain ⟨ji17, hji17⟩ : ∃ j_ : Int, (shl .u64 (IntKind.u64.wrap (rd l0 (ji12))) (ji15)) = j_ := ⟨_, rfl⟩
                     replace H : (ycv.l0 k1 l0 (x4_1.set ((ji9) : Int).toNat (Go.bits .or .u64 (rd x4_1 (ji9)) (ji17))) (l0.length : Int) (wrap64 (x16_1 + 1))) = some (r1, r2) := by first | (rw [hji17] at H; exact H) | (simp only [hji17] at H ⊢; exact H)
                     have hji17_ : (IntKind.u64.wrap ((IntKind.u64.wrap (rd l0 (ji12))) * 2 ^ min (ji15).toNat 64)) = ji17 := hji17
                     have hji17z : (ji15) ≤ 64 → (IntKind.u64.wrap ((IntKind.u64.wrap (rd l0 (ji12))) * 2 ^ (ji15).toNat)) = ji17 := ygb hji17
                     obtain ⟨y1006, hy1006⟩ : ∃ y_ : List Int, y_ = (x4_1.set ((ji9) : Int).toNat (Go.bits .or .u64 (rd x4_1 (ji9)) (ji17))) := ⟨_, rfl⟩
                     replace H : (ycv.l0 k1 l0 y1006 (l0.length : Int) (wrap64 (x16_1 + 1))) = some (r1, r2) := by first | (rw [hy1006]; with_reducible exact H) | (have H2_ := (Option.bind_some _ _).symm.trans H; rw [hy1006]; with_reducible exact H2_) | (have H2_ := (Option.bind_some _ _).symm.trans H; with_reducible exact H2_) | with_reducible exact H | (rw [hy1006]; exact H) | exact H
                     have Ny1006 := Aside0.mk hy1006
                     clear hy1006
                     have H' := Aside0.mk H
                     clear H
                     try go_wp2
                     have n0_ := Aside0.mk (Kd.ybi HO_4.out)
                     have n1_ := Aside0.mk (yac HB.out)
                     clear HO_4
                     clear HB
                     have HO_4 := n0_
                     have HB := n1_
                     clear n0_ n1_
                     obtain ⟨Ao20, co20, eo20⟩ := Kd.ybc HO_4.out
                     (first | subst eo20 | (injection eo20 with f1_ f2_ f3_; have f4_ := f1_.symm; have f5_ := f3_.symm; clear f1_ f2_ f3_; subst f4_; subst f5_))
                     have p1004 : 0 ≤ ((ji9) : Int) := of_decide_eq_true Z26_
                     have q1004 : (ji9) < (x4_1.length : Int) := of_decide_eq_true Z26_
                     obtain ⟨ad1004, e1004, hx1004_0⟩ := Kd.ybs (Kd.R_reads' HO_4.out).2.2 (ji9) p1004 q1004
                     cases e1004
                     replace p1004 := eq_true p1004
                     replace q1004 := eq_true q1004
                     have p1005 : 0 ≤ ((ji12) : Int) := of_decide_eq_true Z26_
                     have q1005 : (ji12) < (l0.length : Int) := of_decide_eq_true Z26_
                     obtain ⟨ad1005, e1005, hx1005_0⟩ := Kd.ybs HR0.out (ji12) p1005 q1005
                     have hw1005_0 := hx1005_0
                     cases e1005
                     replace hx1005_0 := (HB.out.cell (World.block_lt_of_cell? w _ hx1005_0)).trans hx1005_0
                     replace p1005 := eq_true p1005
                     replace q1005 := eq_true q1005
                     have p18 : 0 ≤ ((ji9) : Int) := of_decide_eq_true Z26_
                     have q18 : ((ji9) : Int) < ((x4_1.length : Int) : Int) := of_decide_eq_true Z26_
                     obtain ⟨go18, co18, eo18, gb18, gl18, cl18, HG18⟩ := Kd.yey HO_4.out (by omega)
                     (first | cases eo18 | (injection eo18 with ea_ en_ ec_; (first | subst ea_ | (injection ea_ with ea_; subst ea_)); subst ec_; clear en_))
                     have GB18 := Aside0.mk gb18
                     have GG18 := Aside0.mk HG18
                     clear gb18 gl18 HG18
                     (first | simp only [add_plain] at hx1004_0 | skip)
                     obtain ⟨hx18_0, hf18_0⟩ := Kd.ydb 0 HO_4.out ((ji9) : Int) p18 q18
                     replace p18 := eq_true p18
                     replace q18 := eq_true q18
                     have HP21 := Kd.R_putn HO_4.out ((ji9) : Int) (Go.bits .or .u64 (rd x4_1 (ji9)) (ji17))
                     rw [← Ny1006.out] at HP21
                     have HQ21 := Aside0.mk HP21
                     clear HP21
                     refine yeq (n := 21) (S := fun w' => w'.cell? ⟨go18, ((ji9)).toNat, none⟩ = some (.int .u64 (rd x4_1 (ji9))) ∧ w'.cell? (ad1005.add ((ji12)).toNat) = some (.int .u8 (rd l0 (ji12)))) (ds := [20]) Q94_ (by kernel_rfl) rfl rfl ⟨hx1004_0, ((HB.out.cell (World.block_lt_of_cell? w _ hw1005_0)).trans hw1005_0)⟩ (fun hHeld => ?_); refine yde ycv.tab7 ycv.bits7 (fun HT_ HW_ => ?_)
                     generalize wr.drew = w19 at HO_4 HB GG18 HQ21 hf18_0 hx1004_0 hx1005_0 hx18_0 hHeld ⊢
                     refine pV 0 19 Q95_ (yae HT_.out (by kernel_rfl)) ?_
                     refine pV 1 20 Q96_ (yae HT_.out (by kernel_rfl)) ?_
                     refine pV 2 21 Q97_ (yae HT_.out (by kernel_rfl)) ?_
                     refine pV 3 22 Q98_ (yae HT_.out (by kernel_rfl)) ?_
                     refine pV 5 24 Q99_ (yae HT_.out (by kernel_rfl)) ?_
                     refine pV 6 25 Q100_ (yae HT_.out (by kernel_rfl)) ?_
                     refine pV 7 26 Q101_ (yae HT_.out (by kernel_rfl)) ?_
                     refine pV 8 27 Q102_ (yae HT_.out (by kernel_rfl)) ?_
                     refine pV 9 28 Q103_ (yae HT_.out (by kernel_rfl)) ?_
                     refine pV 10 29 Q104_ (yae HT_.out (by kernel_rfl)) ?_
                     refine pV 11 30 Q105_ (yae HT_.out (by kernel_rfl)) ?_
                     refine pV 14 33 Q106_ (yae HT_.out (by kernel_rfl)) ?_
                     refine pV 15 34 Q107_ (yae HT_.out (by kernel_rfl)) ?_
                     refine pV 16 35 Q108_ (yae HT_.out (by kernel_rfl)) ?_
                     refine pT2 4 23 Q109_ (ycd HT_.out HW_.out (by kernel_rfl)) hHeld ?_
                     refine pT2 12 31 Q110_ (ycd HT_.out HW_.out (by kernel_rfl)) hHeld ?_
                     refine pV 13 32 Q111_ (yae HT_.out (by kernel_rfl)) ?_
                     refine pV 17 36 Q112_ (yae HT_.out (by kernel_rfl)) ?_
                     refine pV 18 37 Q113_ (yae HT_.out (by kernel_rfl)) ?_
                     refine pV 19 38 Q114_ (yae HT_.out (by kernel_rfl)) ?_
                     refine last_ (i := 20) (N := none) Q115_ rfl rfl (ydr HT_.out (by kernel_rfl)) (by decide) (fun K hK => ?_)
                     refine skip_ (w1 := ?_) (by rfl) rfl ?_ ?_
                     rotate_left
                     · go_simp
                       rfl
                     refine hK.out _ _ ?_
                     clear hK K
                     refine yfk (ydx HT_.out (by kernel_rfl)) ?_
                     try go_wp2
                     go_roundg k1
                     case measure => have := HK1.out; omega
                     case rel => exact ⟨(y1006), (wrap64 (x16_1 + 1)), Z27_, H', ⟨by have := HK1.out; omega⟩, ⟨by (with_reducible repeat (first | apply Kd.yba | apply Kd.yaz | apply Kd.ybi)); exact HQ21.out⟩, ⟨by repeat (first | (with_reducible first | exact HB.out | apply yad | apply yab | apply yac | refine ybx ?_ GB18.out) | exact HB.out)⟩⟩
                   · rw [if_neg c16] at H
                     exact absurd H (by simp)
                 · rw [if_neg c14] at H
                   exact absurd H (by simp)
               · rw [if_neg c13] at H
                 exact absurd H (by simp)
             · rw [if_neg c11] at H
               exact absurd H (by simp)
           · rw [if_neg c10] at H
             exact absurd H (by simp)
         · rw [if_neg c8] at H
           have c8b0 : decide (x16_1 < (l0.length : Int)) = false := decide_eq_false c8
           clear c8
           replace H := Option.bind_eq_some_iff.mp H
           obtain ⟨t1007, A220, H⟩ := H
           replace H : (some (t1007, 0)) = some (r1, r2) := H
           have A22 := Aside0.mk A220
           clear A220
           simp only [Option.some.injEq, Prod.mk.injEq] at H
           obtain ⟨rfl, rfl⟩ := H
           obtain ⟨Ao23, co23, eo23⟩ := Kd.ybc HO_4.out
           subst eo23
           go_wp2_with (first | ((with_reducible refine yar (f := 54) rfl ?_); refine yce (some 41) rfl rfl Try.func54 (by kernel_rfl) rfl #[.slice Ao23 x4_1.length co23] rfl Z6_ ?_; (with_reducible refine (ybr.calls k1 _ _ x4_1 t1007 _ ?side1 ?side2 A22.out).mono ?_); (case side1 => repeat (first | exact (Kd.R_reads' HO_4.out).2.2 | (with_reducible refine Kd.yau ?_ _) | (with_reducible refine Kd.yaw ?_ _) | (with_reducible refine Kd.ybe ?_))); (case side2 => exact (Kd.R_reads' HO_4.out).2.1); rintro e w24 ⟨v1008, rfl, ho0, hb⟩; refine ⟨_, rfl, ?_⟩; have n0_ := Aside0.mk (Kd.R_elder' Z22_ (Kd.ycf ho0) hb); have n1_ := Aside0.mk (Kd.ybl (Kd.R_new' ho0 (Kd.R_lt Z22_)) (yaj Z7_)); have n2_ := Aside0.mk (yai Z7_ hb); clear HO_4; clear HB; have HO_4 := n0_; have HO1009 := n1_; have HB := n2_; clear n0_ n1_ n2_; (try clear hb); (try clear hb2); (try clear hk); (try clear hi); (try clear ho0)))
           go_ret2
           exact ⟨_, by first | rfl | (simp [yap, yao] <;> rfl) | (simp only [← hji3]; first | rfl | (simp [yap, yao] <;> rfl)) | (simp [*, yap, yao] <;> rfl), by (with_reducible repeat (first | apply Kd.yba | apply Kd.yaz | apply Kd.ybi)); exact Kd.ycn HO1009.out (fun _ hk => trivial), by repeat (first | (with_reducible first | exact HB.out | apply yad | apply yab | apply yac) | exact HB.out)⟩
     · rw [if_neg c5] at H
       exact absurd H (by simp)
   · rw [if_neg c4] at H
     exact absurd H (by simp)
end Go.Proofs.Ytgnaaaliadiekaa.B
end
section
namespace Go.Proofs.Ytgnaaaliadiekaa.B
open Go.RowKit Go.Proofs.YtgnaaaliadiekaaW.PrintWords Go.Proofs.YtgnaaaliadiekaaW.PrintLast Go.Proofs.YtgnaaaliadiekaaW.PrintMore
attribute [local go_sem] ycj ych ycs ycr ybw ybv yci ycg   -- for this text's walks alone
attribute [local go_sem] yca ybn ybz ybm
set_option linter.unusedVariables false
set_option linter.unusedSimpArgs false
def ydu.f (k : Nat) (l0_0 : List Int) (l0_1 : List Int) : Option (Int) := (ydm.f k l0_0).bind fun t1002 => (some (wrap64 (Int.tdiv (wrap64 (t1002 + 7)) 8)))
set_option maxHeartbeats 8000000 in
set_option maxRecDepth 100000 in
theorem ydu.calls (k : Nat) (A0_0 : Option Addr) (c0_0 : Nat) (l0_0 : List Int) (A0_1 : Option Addr) (c0_1 : Nat) (l0_1 : List Int) (r : Int) (w : World) (hr0_0 : Kd.C (Kd.int .u64) w A0_0 l0_0.length l0_0) (hc0_0 : l0_0.length ≤ c0_0) (hr0_1 : Kd.C (Kd.int .u64) w A0_1 l0_1.length l0_1) (hc0_1 : l0_1.length ≤ c0_1) (h : ydu.f k l0_0 l0_1 = some r) :
 Calls Try.prog 23 #[.agg #[.slice A0_0 l0_0.length c0_0, .slice A0_1 l0_1.length c0_1]] w fun e w' => e = .returned (.int .i64 r) ∧ Below w.heap.size w w' := by
 have hu47 := Try.underlying47
 have HR0_0 := Aside0.mk hr0_0
 have HC0_0 := Aside0.mk hc0_0
 clear hr0_0 hc0_0
 have HR0_1 := Aside0.mk hr0_1
 have HC0_1 := Aside0.mk hc0_1
 clear hr0_1 hc0_1
 have HB := Aside0.mk (Below.refl w.heap.size w)
 have H : ((ydm.f k l0_0).bind fun t1002 => (some (wrap64 (Int.tdiv (wrap64 (t1002 + 7)) 8)))) = some r := h
 clear h
 replace H := Option.bind_eq_some_iff.mp H
 obtain ⟨t1002, A20, H⟩ := H
 replace H : (some (wrap64 (Int.tdiv (wrap64 (t1002 + 7)) 8))) = some r := H
 have A2 := Aside0.mk A20
 clear A20
 obtain rfl := Option.some.inj H
 go_enter Try.func23, Try.ntmps23
 go_wp2_with (first | ((with_reducible refine ybu (N := 1) rfl ?_); refine ydl ?hg (N := 1) ?hd (cs := #[.slice A0_0 l0_0.length c0_0, .slice A0_1 l0_1.length c0_1]) (t := 47) ?hr ?_; (case hd => rfl); (case hg => rfl); (case hr => first | (go_simp; done) | (go_simp; rfl)); intro gb1001 hg w3 hbox hb; have n0_ := Aside0.mk (yai Z7_ hb); have n1_ := Aside0.mk (hbox); have n2_ := Aside0.mk ((by rw [hg]; exact (yaj Z7_) : w.heap.size ≤ gb1001)); have n3_ := Aside0.mk ((by rw [hg]; exact (yaj Z7_) : w.heap.size ≤ gb1001)); clear HB; have HB := n0_; have BK1001 := n1_; have GW1001 := n2_; have GE1001 := n3_; clear n0_ n1_ n2_ n3_; clear hb hbox hg; have hcz4_0 : w3.cell? ⟨gb1001, 0, none⟩ = some (.slice A0_0 l0_0.length c0_0) := (yaa BK1001.out 0).trans rfl; have hcz4_1 : w3.cell? ⟨gb1001, 1, none⟩ = some (.slice A0_1 l0_1.length c0_1) := (yaa BK1001.out 1).trans rfl; have hfz4_0 := ybo BK1001.out 0; have hfz4_1 := ybo BK1001.out 1) | ((with_reducible refine yar (f := 41) rfl ?_); refine yce (some 5) rfl rfl Try.func41 (by kernel_rfl) rfl #[.slice A0_0 l0_0.length c0_0] rfl Z6_ ?_; (with_reducible refine (ydm.calls k _ _ l0_0 t1002 _ ?side1 ?side2 A2.out).mono ?_); (case side1 => repeat (first | exact (Kd.ybg HR0_0.out HB.out) | (with_reducible refine Kd.yau ?_ _) | (with_reducible refine Kd.yaw ?_ _) | (with_reducible refine Kd.ybe ?_))); (case side2 => exact HC0_0.out); rintro e w' ⟨rfl, ⟨nd, rfl⟩⟩; refine ⟨_, rfl, ?_⟩))
 go_ret
 exact ⟨by first | rfl | (simp [yap, yao] <;> rfl) | (simp [*, yap, yao] <;> rfl), by repeat (first | (with_reducible first | exact HB.out | apply yad | apply yab | apply yac | refine ybx ?_ GE1001.out) | exact HB.out)⟩
end Go.Proofs.Ytgnaaaliadiekaa.B
end
