/- A part of the proof (merged by pack.py, a program of this session: what the row's proof names). -/
import Derived.Test.YtgnaaaliadiekaaM4
import Derived.Test.YtgnaaaliadiekaaM10
import Derived.Test.YtgnaaaliadiekaaM11
import Derived.Test.YtgnaaaliadiekaaM0
section
namespace Go.Proofs.Ytgnaaaliadiekaa.B
open Go.RowKit Go.Proofs.YtgnaaaliadiekaaW.PrintWords Go.Proofs.YtgnaaaliadiekaaW.PrintLast Go.Proofs.YtgnaaaliadiekaaW.PrintMore
attribute [local go_sem] ycj ych ycs ycr ybw ybv yci ycg   -- for this text's walks alone
attribute [local go_sem] yca ybn ybz ybm
set_option linter.unusedVariables false
set_option linter.unusedSimpArgs false
mutual
def yav.l0 : Nat → Int → List Int → List Int → Int → Int → Option (List Int)
 | 0, _, _, _, _, _ => none
 | k + 1, x1, x5, x21, x22, x23 => if x23 < x22 then (if 0 ≤ x23 then (if x23 < (x21.length : Int) then (if 0 ≤ (wrap64 (x23 + (wrap64 (Int.tdiv x1 64)))) then (if (wrap64 (x23 + (wrap64 (Int.tdiv x1 64)))) < (x5.length : Int) then (if 0 ≤ (Int.tmod x1 64) then ((some (x5.set ((wrap64 (x23 + (wrap64 (Int.tdiv x1 64)))) : Int).toNat (Go.bits .or .u64 (rd x5 (wrap64 (x23 + (wrap64 (Int.tdiv x1 64))))) (shl .u64 (rd x21 x23) (Int.tmod x1 64))) : List Int)).bind fun y1006 => (if (Int.tmod x1 64) > 0 then (if 0 ≤ (wrap64 ((wrap64 (x23 + (wrap64 (Int.tdiv x1 64)))) + 1)) then (if (wrap64 ((wrap64 (x23 + (wrap64 (Int.tdiv x1 64)))) + 1)) < (x5.length : Int) then (if 0 ≤ (wrap64 (64 - (Int.tmod x1 64))) then (yav.l0 k x1 (y1006.set ((wrap64 ((wrap64 (x23 + (wrap64 (Int.tdiv x1 64)))) + 1)) : Int).toNat (Go.bits .or .u64 (rd y1006 (wrap64 ((wrap64 (x23 + (wrap64 (Int.tdiv x1 64)))) + 1))) (shr .u64 (rd x21 x23) (wrap64 (64 - (Int.tmod x1 64)))))) x21 x22 (wrap64 (x23 + 1))) else (none)) else (none)) else (none)) else (yav.l0 k x1 y1006 x21 x22 (wrap64 (x23 + 1))))) else (none)) else (none)) else (none)) else (none)) else (none)) else ((ybr.f k x5).bind fun t1009 => (some t1009))
def yav.l1 : Nat → List Int → Int → List Int → Int → Int → Option (List Int)
 | 0, _, _, _, _, _ => none
 | k + 1, x0, x1, x8, x73, x74 => if x74 < x73 then (if 0 ≤ x74 then (if x74 < (x8.length : Int) then (if 0 ≤ (Int.tmod x1 64) then ((some (x8.set (x74 : Int).toNat (shr .u64 (rd x8 x74) (Int.tmod x1 64)) : List Int)).bind fun y1017 => (if (Int.tmod x1 64) > 0 then (if (wrap64 (x74 + 1)) < (x8.length : Int) then (if 0 ≤ (wrap64 ((wrap64 ((wrap64 (Int.tdiv x1 64)) + x74)) + 1)) then (if (wrap64 ((wrap64 ((wrap64 (Int.tdiv x1 64)) + x74)) + 1)) < (x0.length : Int) then (if 0 ≤ (wrap64 (64 - (Int.tmod x1 64))) then (yav.l1 k x0 x1 (y1017.set (x74 : Int).toNat (Go.bits .or .u64 (rd y1017 x74) (shl .u64 (rd x0 (wrap64 ((wrap64 ((wrap64 (Int.tdiv x1 64)) + x74)) + 1))) (wrap64 (64 - (Int.tmod x1 64)))))) x73 (wrap64 (x74 + 1))) else (none)) else (none)) else (none)) else (yav.l1 k x0 x1 y1017 x73 (wrap64 (x74 + 1)))) else (yav.l1 k x0 x1 y1017 x73 (wrap64 (x74 + 1))))) else (none)) else (none)) else (none)) else ((ybr.f k x8).bind fun t1021 => (some t1021))
end
def yav.f (k : Nat) (l0 : List Int) (a1 : Int) : Option (List Int) := if a1 < 0 then (if 0 ≤ (wrap64 ((wrap64 ((l0.length : Int) + (wrap64 (Int.tdiv (wrap64 (-a1)) 64)))) + 1)) then (if (wrap64 ((wrap64 ((l0.length : Int) + (wrap64 (Int.tdiv (wrap64 (-a1)) 64)))) + 1) : Int).toNat ≤ 35184372088832 then (yav.l0 k (wrap64 (-a1)) (List.replicate (wrap64 ((wrap64 ((l0.length : Int) + (wrap64 (Int.tdiv (wrap64 (-a1)) 64)))) + 1) : Int).toNat 0) l0 (l0.length : Int) 0) else (none)) else (none)) else (if a1 ≥ (wrap64 (64 * (l0.length : Int))) then (some ([] : List Int)) else (if 0 ≤ (wrap64 (Int.tdiv a1 64)) then (if (wrap64 (Int.tdiv a1 64)) ≤ (l0.length : Int) then ((ycx.f (l0.drop ((wrap64 (Int.tdiv a1 64)) : Int).toNat)).bind fun t1013 => (yav.l1 k l0 a1 t1013 (t1013.length : Int) 0)) else (none)) else (none)))
def yav.T7 : Bool × List (List Nat × List Nat) := (true, [([], []), ([], []), ([], []), ([2], [2]), ([1, 3], [1, 3]), ([0, 4], [0, 4]), ([5], [5]), ([], []), ([], []), ([8], [8]), ([7, 9], [7, 9]), ([6, 10], [6, 10]), ([0, 4, 0, 1, 2, 3, 4, 5, 6, 7, 8, 9, 10, 11], [0, 4]), ([12, 11, 0, 1, 2, 3, 4, 5, 6, 7, 8, 9, 10, 11], [11, 12])])
def yav.B7 : List Nat := [0, 0, 0, 4, 14, 31, 63, 0, 0, 256, 896, 2047, 4095, 8191]
theorem yav.tab7 : rtab .any (opsOf Try.f40 7) = yav.T7 := by kernel_rfl
theorem yav.bits7 : yfg yav.T7.2 yav.B7 = true := by kernel_rfl
def yav.T9 : Bool × List (List Nat × List Nat) := (true, [([], []), ([], []), ([], []), ([2], [2]), ([1, 3], [1, 3]), ([4], [4]), ([0, 5], [0, 5]), ([6], [6]), ([], []), ([], []), ([9], [9]), ([10], [10]), ([8, 11], [8, 11]), ([7, 12], [7, 12]), ([0, 5, 0, 1, 2, 3, 4, 5, 6, 7, 8, 9, 10, 11, 12, 13], [0, 5]), ([14, 13, 0, 1, 2, 3, 4, 5, 6, 7, 8, 9, 10, 11, 12, 13], [13, 14])])
def yav.B9 : List Nat := [0, 0, 0, 4, 14, 30, 63, 127, 0, 0, 512, 1536, 3840, 8191, 16383, 32767]
theorem yav.tab9 : rtab .any (opsOf Try.f40 9) = yav.T9 := by kernel_rfl
theorem yav.bits9 : yfg yav.T9.2 yav.B9 = true := by kernel_rfl
def yav.T20 : Bool × List (List Nat × List Nat) := (true, [([], []), ([], []), ([0, 1], [0, 1]), ([2], [2]), ([], []), ([], []), ([5], [5]), ([], []), ([6, 7], [6, 7]), ([8], [8]), ([4, 9], [4, 9]), ([10], [10]), ([], []), ([12], [12]), ([13], [13]), ([11, 14], [11, 14]), ([3, 15], [3, 15]), ([0, 1, 0, 1, 2, 3, 4, 5, 6, 7, 8, 9, 10, 11, 12, 13, 14, 15, 16], [0, 1]), ([17, 16, 0, 1, 2, 3, 4, 5, 6, 7, 8, 9, 10, 11, 12, 13, 14, 15, 16], [16, 17])])
def yav.B20 : List Nat := [0, 0, 3, 7, 0, 0, 32, 0, 224, 480, 1008, 2032, 0, 4096, 12288, 32752, 65535, 131071, 262143]
theorem yav.tab20 : rtab .any (opsOf Try.f40 20) = yav.T20 := by kernel_rfl
theorem yav.bits20 : yfg yav.T20.2 yav.B20 = true := by kernel_rfl
set_option maxHeartbeats 8000000 in
set_option maxRecDepth 100000 in
theorem yav.calls (k : Nat) (A0 : Option Addr) (c0 : Nat) (l0 : List Int) (a1 : Int) (r : List Int) (w : World) (hr0 : Kd.C (Kd.int .u64) w A0 l0.length l0) (hc0 : l0.length ≤ c0) (h : yav.f k l0 a1 = some r) :
 Calls Try.prog 40 #[.slice A0 l0.length c0, .int .i64 a1] w fun e w' => ∃ v0_ : Value, e = .returned (v0_) ∧ Kd.R (Kd.int .u64) 61 w' w.heap.size (fun _ => True) v0_ r ∧ Below w.heap.size w w' := by
 have HR0 := Aside0.mk hr0
 have HC0 := Aside0.mk hc0
 clear hr0 hc0
 have HB := Aside0.mk (Below.refl w.heap.size w)
 have H : (if a1 < 0 then (if 0 ≤ (wrap64 ((wrap64 ((l0.length : Int) + (wrap64 (Int.tdiv (wrap64 (-a1)) 64)))) + 1)) then (if (wrap64 ((wrap64 ((l0.length : Int) + (wrap64 (Int.tdiv (wrap64 (-a1)) 64)))) + 1) : Int).toNat ≤ 35184372088832 then (yav.l0 k (wrap64 (-a1)) (List.replicate (wrap64 ((wrap64 ((l0.length : Int) + (wrap64 (Int.tdiv (wrap64 (-a1)) 64)))) + 1) : Int).toNat 0) l0 (l0.length : Int) 0) else (none)) else (none)) else (if a1 ≥ (wrap64 (64 * (l0.length : Int))) then (some ([] : List Int)) else (if 0 ≤ (wrap64 (Int.tdiv a1 64)) then (if (wrap64 (Int.tdiv a1 64)) ≤ (l0.length : Int) then ((ycx.f (l0.drop ((wrap64 (Int.tdiv a1 64)) : Int).toNat)).bind fun t1013 => (yav.l1 k l0 a1 t1013 (t1013.length : Int) 0)) else (none)) else (none)))) = some r := h
 clear h
 by_cases c3 : a1 < 0
 · rw [if_pos c3] at H
   have c3b0 : decide (a1 < 0) = true := decide_eq_true c3
   clear c3
   obtain ⟨ji4, hji4⟩ : ∃ j_ : Int, (wrap64 ((wrap64 ((l0.length : Int) + (wrap64 (Int.tdiv (wrap64 (-a1)) 64)))) + 1)) = j_ := ⟨_, rfl⟩
   replace H : (if 0 ≤ (ji4) then (if (ji4 : Int).toNat ≤ 35184372088832 then (yav.l0 k (wrap64 (-a1)) (List.replicate (ji4 : Int).toNat 0) l0 (l0.length : Int) 0) else (none)) else (none)) = some r := by first | (rw [hji4] at H; exact H) | (simp only [hji4] at H ⊢; exact H)
   have hji4w : (IntKind.i64.wrap ((wrap64 ((l0.length : Int) + (wrap64 (Int.tdiv (wrap64 (-a1)) 64)))) + 1)) = ji4 := (ydk _).trans hji4
   by_cases c5 : 0 ≤ (ji4)
   · rw [if_pos c5] at H
     have c5b0 := eq_true c5
     have c5b1 : decide (0 ≤ (ji4)) = true := decide_eq_true c5
     clear c5
     by_cases c6 : (ji4 : Int).toNat ≤ 35184372088832
     · rw [if_pos c6] at H
       have c6b0 := eq_true c6
       have c6b1 : decide ((ji4 : Int).toNat ≤ 35184372088832) = true := decide_eq_true c6
       clear c6
       obtain ⟨y1001, hy1001⟩ : ∃ y_ : List Int, y_ = (List.replicate (ji4 : Int).toNat 0) := ⟨_, rfl⟩
       replace H : (yav.l0 k (wrap64 (-a1)) y1001 l0 (l0.length : Int) 0) = some r := by first | (rw [hy1001]; with_reducible exact H) | (have H2_ := (Option.bind_some _ _).symm.trans H; rw [hy1001]; with_reducible exact H2_) | (have H2_ := (Option.bind_some _ _).symm.trans H; with_reducible exact H2_) | with_reducible exact H | (rw [hy1001]; exact H) | exact H
       have Ny1001 := Aside0.mk hy1001
       clear hy1001
       have H' := Aside0.mk H
       clear H
       go_enter Try.func40, Try.ntmps40
       go_wp2_with (first | ((with_reducible refine ybu (N := 20) rfl ?_); (try (refine ydn (by rfl) ?_; dsimp only)); refine Kd.yhb (Kd.int .u64) _ 61 rfl (N := 20) rfl 23 _ _ rfl ji4 rfl rfl Try.underlying23 (.int .u64 0) 8 ygd rfl (by decide) (by omega) 0 (ok := fun _ => True) (okp := fun _ => True) rfl (fun _ hk => hk) trivial (of_decide_eq_true Z26_) (Nat.le_trans (Nat.mul_le_mul_right _ (of_decide_eq_true Z26_ : ji4.toNat ≤ 35184372088832)) (by omega)) (Below.refl _ _) (Nat.le_refl _) ?_; intro v1002 w7 ho8 hb hg_ hnew_; clear hg_ hnew_; (first | rw [← Ny1001.out] at ho8 | (simp only [Int.reduceToNat] at ho8; rw [← Ny1001.out] at ho8)); have n0_ := Aside0.mk (Kd.ybl ho8 (yaj Z7_)); have n1_ := Aside0.mk (yai Z7_ hb); clear HB; have HO1003 := n0_; have HB := n1_; clear n0_ n1_; clear hb ho8))
       go_loopg [23] k (fun kq v23 w' => ∃ (x5_1 : List Int) (x23_1 : Int), v23 = .int .i64 x23_1 ∧ Aside0 (yav.l0 kq (wrap64 (-a1)) x5_1 l0 (l0.length : Int) x23_1 = some r) ∧ Aside0 (kq ≤ k) ∧ Aside0 (Kd.R (Kd.int .u64) 61 w' w.heap.size (fun _ => True) v1002 x5_1) ∧ Aside0 (Below w.heap.size w w'))
       case atStart => exact ⟨(y1001), (0), Z27_, H', ⟨Nat.le_refl _⟩, ⟨by (with_reducible repeat (first | apply Kd.yba | apply Kd.yaz | apply Kd.ybi)); exact HO1003.out⟩, ⟨by repeat (first | (with_reducible first | exact HB.out | apply yad | apply yab | apply yac) | exact HB.out)⟩⟩
       case round =>
        clear H'
        try clear p2
        try clear c3
        try clear c3b0
        try clear c4
        try clear c5
        try clear c5b0
        try clear c5b1
        try clear c6
        try clear c6b0
        try clear c6b1
        try clear p6
        obtain ⟨x5_1, x23_1, rfl, HA, HK1, HO_5, HB⟩ := hrel
        cases gk with
        | zero => exact absurd HA.out (by simp [yav.l0])
        | succ k1 =>
         have H := HA.out
         clear HA
         simp only [yav.l0] at H
         by_cases c9 : x23_1 < (l0.length : Int)
         · rw [if_pos c9] at H
           have c9b0 : decide (x23_1 < (l0.length : Int)) = true := decide_eq_true c9
           clear c9
           by_cases c10 : 0 ≤ x23_1
           · rw [if_pos c10] at H
             have c10b0 : decide (0 ≤ x23_1) = true := decide_eq_true c10
             clear c10
             by_cases c11 : x23_1 < (l0.length : Int)
             · rw [if_pos c11] at H
               have c11b0 : decide (x23_1 < (l0.length : Int)) = true := decide_eq_true c11
               clear c11
               obtain ⟨ji12, hji12⟩ : ∃ j_ : Int, (wrap64 (x23_1 + (wrap64 (Int.tdiv (wrap64 (-a1)) 64)))) = j_ := ⟨_, rfl⟩
               replace H : (if 0 ≤ (ji12) then (if (ji12) < (x5_1.length : Int) then (if 0 ≤ (Int.tmod (wrap64 (-a1)) 64) then ((some (x5_1.set ((ji12) : Int).toNat (Go.bits .or .u64 (rd x5_1 (ji12)) (shl .u64 (rd l0 x23_1) (Int.tmod (wrap64 (-a1)) 64))) : List Int)).bind fun y1006 => (if (Int.tmod (wrap64 (-a1)) 64) > 0 then (if 0 ≤ (wrap64 ((ji12) + 1)) then (if (wrap64 ((ji12) + 1)) < (x5_1.length : Int) then (if 0 ≤ (wrap64 (64 - (Int.tmod (wrap64 (-a1)) 64))) then (yav.l0 k1 (wrap64 (-a1)) (y1006.set ((wrap64 ((ji12) + 1)) : Int).toNat (Go.bits .or .u64 (rd y1006 (wrap64 ((ji12) + 1))) (shr .u64 (rd l0 x23_1) (wrap64 (64 - (Int.tmod (wrap64 (-a1)) 64)))))) l0 (l0.length : Int) (wrap64 (x23_1 + 1))) else (none)) else (none)) else (none)) else (yav.l0 k1 (wrap64 (-a1)) y1006 l0 (l0.length : Int) (wrap64 (x23_1 + 1))))) else (none)) else (none)) else (none)) = some r := by first | (rw [hji12] at H; exact H) | (simp only [hji12] at H ⊢; exact H)
               have hji12w : (IntKind.i64.wrap (x23_1 + (wrap64 (Int.tdiv (wrap64 (-a1)) 64)))) = ji12 := (ydk _).trans hji12
               by_cases c13 : 0 ≤ (ji12)
               · rw [if_pos c13] at H
                 have c13b0 : decide (0 ≤ (ji12)) = true := decide_eq_true c13
                 clear c13
                 by_cases c14 : (ji12) < (x5_1.length : Int)
                 · rw [if_pos c14] at H
                   have c14b0 : decide ((ji12) < (x5_1.length : Int)) = true := decide_eq_true c14
                   clear c14
                   obtain ⟨ji15, hji15⟩ : ∃ j_ : Int, (Int.tmod (wrap64 (-a1)) 64) = j_ := ⟨_, rfl⟩
                   replace H : (if 0 ≤ (ji15) then ((some (x5_1.set ((ji12) : Int).toNat (Go.bits .or .u64 (rd x5_1 (ji12)) (shl .u64 (rd l0 x23_1) (ji15))) : List Int)).bind fun y1006 => (if (ji15) > 0 then (if 0 ≤ (wrap64 ((ji12) + 1)) then (if (wrap64 ((ji12) + 1)) < (x5_1.length : Int) then (if 0 ≤ (wrap64 (64 - (ji15))) then (yav.l0 k1 (wrap64 (-a1)) (y1006.set ((wrap64 ((ji12) + 1)) : Int).toNat (Go.bits .or .u64 (rd y1006 (wrap64 ((ji12) + 1))) (shr .u64 (rd l0 x23_1) (wrap64 (64 - (ji15)))))) l0 (l0.length : Int) (wrap64 (x23_1 + 1))) else (none)) else (none)) else (none)) else (yav.l0 k1 (wrap64 (-a1)) y1006 l0 (l0.length : Int) (wrap64 (x23_1 + 1))))) else (none)) = some r := by first | (rw [hji15] at H; exact H) | (simp only [hji15] at H ⊢; exact H)
                   by_cases c16 : 0 ≤ (ji15)
                   · rw [if_pos c16] at H
                     have c16b0 := eq_true c16
                     have c16b1 : decide (0 ≤ (ji15)) = true := decide_eq_true c16
                     clear c16
                     obtain ⟨ji17, hji17⟩ : ∃ j_ : Int, (shl .u64 (rd l0 x23_1) (ji15)) = j_ := ⟨_, rfl⟩
                     replace H : ((some (x5_1.set ((ji12) : Int).toNat (Go.bits .or .u64 (rd x5_1 (ji12)) (ji17)) : List Int)).bind fun y1006 => (if (ji15) > 0 then (if 0 ≤ (wrap64 ((ji12) + 1)) then (if (wrap64 ((ji12) + 1)) < (x5_1.length : Int) then (if 0 ≤ (wrap64 (64 - (ji15))) then (yav.l0 k1 (wrap64 (-a1)) (y1006.set ((wrap64 ((ji12) + 1)) : Int).toNat (Go.bits .or .u64 (rd y1006 (wrap64 ((ji12) + 1))) (shr .u64 (rd l0 x23_1) (wrap64 (64 - (ji15)))))) l0 (l0.length : Int) (wrap64 (x23_1 + 1))) else (none)) else (none)) else (none)) else (yav.l0 k1 (wrap64 (-a1)) y1006 l0 (l0.length : Int) (wrap64 (x23_1 + 1))))) = some r := by first | (rw [hji17] at H; exact H) | (simp only [hji17] at H ⊢; exact H)
                     have hji17_ : (IntKind.u64.wrap ((rd l0 x23_1) * 2 ^ min (ji15).toNat 64)) = ji17 := hji17
                     have hji17z : (ji15) ≤ 64 → (IntKind.u64.wrap ((rd l0 x23_1) * 2 ^ (ji15).toNat)) = ji17 := ygb hji17
                     obtain ⟨y1006, hy1006⟩ : ∃ y_ : List Int, y_ = (x5_1.set ((ji12) : Int).toNat (Go.bits .or .u64 (rd x5_1 (ji12)) (ji17))) := ⟨_, rfl⟩
                     replace H : (if (ji15) > 0 then (if 0 ≤ (wrap64 ((ji12) + 1)) then (if (wrap64 ((ji12) + 1)) < (x5_1.length : Int) then (if 0 ≤ (wrap64 (64 - (ji15))) then (yav.l0 k1 (wrap64 (-a1)) (y1006.set ((wrap64 ((ji12) + 1)) : Int).toNat (Go.bits .or .u64 (rd y1006 (wrap64 ((ji12) + 1))) (shr .u64 (rd l0 x23_1) (wrap64 (64 - (ji15)))))) l0 (l0.length : Int) (wrap64 (x23_1 + 1))) else (none)) else (none)) else (none)) else (yav.l0 k1 (wrap64 (-a1)) y1006 l0 (l0.length : Int) (wrap64 (x23_1 + 1)))) = some r := by first | (rw [hy1006]; with_reducible exact H) | (have H2_ := (Option.bind_some _ _).symm.trans H; rw [hy1006]; with_reducible exact H2_) | (have H2_ := (Option.bind_some _ _).symm.trans H; with_reducible exact H2_) | with_reducible exact H | (rw [hy1006]; exact H) | exact H
                     have Ny1006 := Aside0.mk hy1006
                     clear hy1006
                     by_cases c19 : (ji15) > 0
                     · rw [if_pos c19] at H
                       have c19b0 : decide (0 < (ji15)) = true := decide_eq_true c19
                       clear c19
                       obtain ⟨ji20, hji20⟩ : ∃ j_ : Int, (wrap64 ((ji12) + 1)) = j_ := ⟨_, rfl⟩
                       replace H : (if 0 ≤ (ji20) then (if (ji20) < (x5_1.length : Int) then (if 0 ≤ (wrap64 (64 - (ji15))) then (yav.l0 k1 (wrap64 (-a1)) (y1006.set ((ji20) : Int).toNat (Go.bits .or .u64 (rd y1006 (ji20)) (shr .u64 (rd l0 x23_1) (wrap64 (64 - (ji15)))))) l0 (l0.length : Int) (wrap64 (x23_1 + 1))) else (none)) else (none)) else (none)) = some r := by first | (rw [hji20] at H; exact H) | (simp only [hji20] at H ⊢; exact H)
                       have hji20w : (IntKind.i64.wrap ((ji12) + 1)) = ji20 := (ydk _).trans hji20
                       by_cases c21 : 0 ≤ (ji20)
                       · rw [if_pos c21] at H
                         have c21b0 : decide (0 ≤ (ji20)) = true := decide_eq_true c21
                         clear c21
                         by_cases c22 : (ji20) < (x5_1.length : Int)
                         · rw [if_pos c22] at H
                           have c22b0 : decide ((ji20) < (x5_1.length : Int)) = true := decide_eq_true c22
                           clear c22
                           obtain ⟨ji23, hji23⟩ : ∃ j_ : Int, (wrap64 (64 - (ji15))) = j_ := ⟨_, rfl⟩
                           replace H : (if 0 ≤ (ji23) then (yav.l0 k1 (wrap64 (-a1)) (y1006.set ((ji20) : Int).toNat (Go.bits .or .u64 (rd y1006 (ji20)) (shr .u64 (rd l0 x23_1) (ji23)))) l0 (l0.length : Int) (wrap64 (x23_1 + 1))) else (none)) = some r := by first | (rw [hji23] at H; exact H) | (simp only [hji23] at H ⊢; exact H)
                           have hji23w : (IntKind.i64.wrap (64 - (ji15))) = ji23 := (ydk _).trans hji23
                           by_cases c24 : 0 ≤ (ji23)
                           · rw [if_pos c24] at H
                             have c24b0 := eq_true c24
                             have c24b1 : decide (0 ≤ (ji23)) = true := decide_eq_true c24
                             clear c24
                             obtain ⟨ji25, hji25⟩ : ∃ j_ : Int, (shr .u64 (rd l0 x23_1) (ji23)) = j_ := ⟨_, rfl⟩
                             replace H : (yav.l0 k1 (wrap64 (-a1)) (y1006.set ((ji20) : Int).toNat (Go.bits .or .u64 (rd y1006 (ji20)) (ji25))) l0 (l0.length : Int) (wrap64 (x23_1 + 1))) = some r := by first | (rw [hji25] at H; exact H) | (simp only [hji25] at H ⊢; exact H)
                             have hji25_ : ((rd l0 x23_1) / 2 ^ min (ji23).toNat 64) = ji25 := hji25
                             have hji25z : (ji23) ≤ 64 → ((rd l0 x23_1) / 2 ^ (ji23).toNat) = ji25 := yfn hji25
                             obtain ⟨y1008, hy1008⟩ : ∃ y_ : List Int, y_ = (y1006.set ((ji20) : Int).toNat (Go.bits .or .u64 (rd y1006 (ji20)) (ji25))) := ⟨_, rfl⟩
                             replace H : (yav.l0 k1 (wrap64 (-a1)) y1008 l0 (l0.length : Int) (wrap64 (x23_1 + 1))) = some r := by first | (rw [hy1008]; with_reducible exact H) | (have H2_ := (Option.bind_some _ _).symm.trans H; rw [hy1008]; with_reducible exact H2_) | (have H2_ := (Option.bind_some _ _).symm.trans H; with_reducible exact H2_) | with_reducible exact H | (rw [hy1008]; exact H) | exact H
                             have Ny1008 := Aside0.mk hy1008
                             clear hy1008
                             have H' := Aside0.mk H
                             clear H
                             have p1004 : 0 ≤ (x23_1 : Int) := of_decide_eq_true Z26_
                             have q1004 : x23_1 < (l0.length : Int) := of_decide_eq_true Z26_
                             obtain ⟨ad1004, e1004, hx1004_0⟩ := Kd.ybs HR0.out x23_1 p1004 q1004
                             cases e1004
                             replace hx1004_0 := (HB.out.cell (World.block_lt_of_cell? w _ hx1004_0)).trans hx1004_0
                             replace p1004 := eq_true p1004
                             replace q1004 := eq_true q1004
                             try go_wp2
                             have n0_ := Aside0.mk (Kd.ybi HO_5.out)
                             have n1_ := Aside0.mk (yac HB.out)
                             clear HO_5
                             clear HB
                             have HO_5 := n0_
                             have HB := n1_
                             clear n0_ n1_
                             obtain ⟨Ao28, co28, eo28⟩ := Kd.ybc HO_5.out
                             (first | subst eo28 | (injection eo28 with f1_ f2_ f3_; have f4_ := f1_.symm; have f5_ := f3_.symm; clear f1_ f2_ f3_; subst f4_; subst f5_))
                             have p1005 : 0 ≤ ((ji12) : Int) := of_decide_eq_true Z26_
                             have q1005 : (ji12) < (x5_1.length : Int) := of_decide_eq_true Z26_
                             obtain ⟨ad1005, e1005, hx1005_0⟩ := Kd.ybs (Kd.R_reads' HO_5.out).2.2 (ji12) p1005 q1005
                             cases e1005
                             replace p1005 := eq_true p1005
                             replace q1005 := eq_true q1005
                             have p18 : 0 ≤ ((ji12) : Int) := of_decide_eq_true Z26_
                             have q18 : ((ji12) : Int) < ((x5_1.length : Int) : Int) := of_decide_eq_true Z26_
                             obtain ⟨go18, co18, eo18, gb18, gl18, cl18, HG18⟩ := Kd.yey HO_5.out (by omega)
                             (first | cases eo18 | (injection eo18 with ea_ en_ ec_; (first | subst ea_ | (injection ea_ with ea_; subst ea_)); subst ec_; clear en_))
                             have GB18 := Aside0.mk gb18
                             have GG18 := Aside0.mk HG18
                             clear gb18 gl18 HG18
                             (first | simp only [add_plain] at hx1005_0 | skip)
                             obtain ⟨hx18_0, hf18_0⟩ := Kd.ydb 0 HO_5.out ((ji12) : Int) p18 q18
                             replace p18 := eq_true p18
                             replace q18 := eq_true q18
                             have HP29 := Kd.R_putn HO_5.out ((ji12) : Int) (Go.bits .or .u64 (rd x5_1 (ji12)) (ji17))
                             rw [← Ny1006.out] at HP29
                             have HQ29 := Aside0.mk HP29
                             clear HP29
                             refine yeq (n := 14) (S := fun w' => w'.cell? ⟨go18, ((ji12)).toNat, none⟩ = some (.int .u64 (rd x5_1 (ji12)))) (ds := [13]) Q66_ (by kernel_rfl) rfl rfl (hx1005_0) (fun hHeld => ?_); refine yde yav.tab7 yav.bits7 (fun HT_ HW_ => ?_)
                             generalize wr.drew = w27 at HO_5 HB GG18 HQ29 hf18_0 hx1005_0 hx18_0 hHeld ⊢
                             refine pV 0 28 Q67_ (yae HT_.out (by kernel_rfl)) ?_
                             refine pV 1 29 Q68_ (yae HT_.out (by kernel_rfl)) ?_
                             refine pV 2 30 Q69_ (yae HT_.out (by kernel_rfl)) ?_
                             refine pV 3 31 Q70_ (yae HT_.out (by kernel_rfl)) ?_
                             refine pV 4 32 Q71_ (yae HT_.out (by kernel_rfl)) ?_
                             refine pV 5 33 Q72_ (yae HT_.out (by kernel_rfl)) ?_
                             refine pV 7 35 Q73_ (yae HT_.out (by kernel_rfl)) ?_
                             refine pV 8 36 Q74_ (yae HT_.out (by kernel_rfl)) ?_
                             refine pV 9 37 Q75_ (yae HT_.out (by kernel_rfl)) ?_
                             refine pV 10 38 Q76_ (yae HT_.out (by kernel_rfl)) ?_
                             refine pT1 6 34 Q77_ (ycd HT_.out HW_.out (by kernel_rfl)) hHeld ?_
                             refine pV 11 39 Q78_ (yae HT_.out (by kernel_rfl)) ?_
                             refine pV 12 40 Q79_ (yae HT_.out (by kernel_rfl)) ?_
                             refine last_ (i := 13) (N := none) Q80_ rfl rfl (ydr HT_.out (by kernel_rfl)) (by decide) (fun K hK => ?_)
                             refine skip_ (w1 := ?_) (by rfl) rfl ?_ ?_
                             rotate_left
                             · go_simp
                               rfl
                             refine hK.out _ _ ?_
                             clear hK K
                             refine yfk (ydx HT_.out (by kernel_rfl)) ?_
                             try go_wp2
                             have n0_ : Aside0 (Kd.R (Kd.int .u64) 61 (w27.setCell ⟨go18, ((ji12) : Int).toNat, none⟩ (.int .u64 (Go.bits .or .u64 (rd x5_1 (ji12)) (ji17)))) w.heap.size (fun _ => True) (.slice (some ⟨go18, 0, none⟩) x5_1.length co28) y1006) := ⟨by (with_reducible repeat (first | apply Kd.yba | apply Kd.yaz | apply Kd.ybi)); exact HQ29.out⟩
                             have n1_ : Aside0 (Below w.heap.size w (w27.setCell ⟨go18, ((ji12) : Int).toNat, none⟩ (.int .u64 (Go.bits .or .u64 (rd x5_1 (ji12)) (ji17))))) := ⟨by repeat (first | (with_reducible first | exact HB.out | apply yad | apply yab | apply yac | refine ybx ?_ GB18.out) | exact HB.out)⟩
                             (try clear HO_5)
                             (try clear HB)
                             generalize (w27.setCell ⟨go18, ((ji12) : Int).toNat, none⟩ (.int .u64 (Go.bits .or .u64 (rd x5_1 (ji12)) (ji17)))) = w30 at n0_ n1_ ⊢
                             have HO_5 := n0_
                             have HB := n1_
                             clear n0_ n1_
                             have n0_ := Aside0.mk (Kd.ybi HO_5.out)
                             have n1_ := Aside0.mk (yac HB.out)
                             clear HO_5
                             clear HB
                             have HO_5 := n0_
                             have HB := n1_
                             clear n0_ n1_
                             have p1007 : 0 ≤ ((ji20) : Int) := of_decide_eq_true Z26_
                             have q1007 : (ji20) < (y1006.length : Int) := (by have h_ : ((ji20) : Int) < ((x5_1.length : Int) : Int) := of_decide_eq_true Z26_; first | (have e_ := (Kd.R_reads' HO_5.out).1; omega) | simpa only [Ny1006.out, List.length_set] using h_)
                             have ql1007 : (((ji20) : Int) < ((x5_1.length : Int) : Int)) = True := eq_true (of_decide_eq_true Z26_)
                             obtain ⟨ad1007, e1007, hx1007_0⟩ := Kd.ybs (Kd.R_reads' HO_5.out).2.2 (ji20) p1007 q1007
                             obtain rfl : (⟨go18, 0, none⟩ : Addr) = ad1007 := (by injection e1007)
                             (first | simp only [add_plain] at hx1007_0 | simp only [add_at] at hx1007_0 | simp only [Addr.add, Nat.zero_add] at hx1007_0 | skip)
                             replace p1007 := eq_true p1007
                             replace q1007 := eq_true q1007
                             have p26 : 0 ≤ ((ji20) : Int) := of_decide_eq_true Z26_
                             have q26 : ((ji20) : Int) < ((x5_1.length : Int) : Int) := of_decide_eq_true Z26_
                             obtain ⟨hx26_0, hf26_0⟩ := Kd.ydb 0 HO_5.out ((ji20) : Int) p26 q26
                             replace p26 := eq_true p26
                             replace q26 := eq_true q26
                             have HP32 := Kd.R_putn HO_5.out ((ji20) : Int) (Go.bits .or .u64 (rd y1006 (ji20)) (ji25))
                             rw [← Ny1008.out] at HP32
                             have HQ32 := Aside0.mk HP32
                             clear HP32
                             refine yeq (n := 16) (S := fun w' => w'.cell? ⟨go18, ((ji20)).toNat, none⟩ = some (.int .u64 (rd y1006 (ji20)))) (ds := [15]) Q120_ (by kernel_rfl) rfl rfl (hx1007_0) (fun hHeld => ?_); refine yde yav.tab9 yav.bits9 (fun HT_ HW_ => ?_)
                             generalize w30.drew = w31 at HO_5 HB HQ29 HQ32 hf26_0 hx1007_0 hx26_0 hHeld ⊢
                             refine pV 0 44 Q121_ (yae HT_.out (by kernel_rfl)) ?_
                             refine pV 1 45 Q122_ (yae HT_.out (by kernel_rfl)) ?_
                             refine pV 2 46 Q123_ (yae HT_.out (by kernel_rfl)) ?_
                             refine pV 3 47 Q124_ (yae HT_.out (by kernel_rfl)) ?_
                             refine pV 4 48 Q125_ (yae HT_.out (by kernel_rfl)) ?_
                             refine pV 5 49 Q126_ (yae HT_.out (by kernel_rfl)) ?_
                             refine pV 6 50 Q127_ (yae HT_.out (by kernel_rfl)) ?_
                             refine pV 8 52 Q128_ (yae HT_.out (by kernel_rfl)) ?_
                             refine pV 9 53 Q129_ (yae HT_.out (by kernel_rfl)) ?_
                             refine pV 10 54 Q130_ (yae HT_.out (by kernel_rfl)) ?_
                             refine pV 11 55 Q131_ (yae HT_.out (by kernel_rfl)) ?_
                             refine pV 12 56 Q132_ (yae HT_.out (by kernel_rfl)) ?_
                             refine pT1 7 51 Q133_ (ycd HT_.out HW_.out (by kernel_rfl)) hHeld ?_
                             refine pV 13 57 Q134_ (yae HT_.out (by kernel_rfl)) ?_
                             refine pV 14 58 Q135_ (yae HT_.out (by kernel_rfl)) ?_
                             refine last_ (i := 15) (N := none) Q136_ rfl rfl (ydr HT_.out (by kernel_rfl)) (by decide) (fun K hK => ?_)
                             refine skip_ (w1 := ?_) (by rfl) rfl ?_ ?_
                             rotate_left
                             · go_simp
                               rfl
                             refine hK.out _ _ ?_
                             clear hK K
                             refine yfk (ydx HT_.out (by kernel_rfl)) ?_
                             try go_wp2
                             go_roundg k1
                             case measure => have := HK1.out; omega
                             case rel => exact ⟨(y1008), (wrap64 (x23_1 + 1)), Z27_, H', ⟨by have := HK1.out; omega⟩, ⟨by (with_reducible repeat (first | apply Kd.yba | apply Kd.yaz | apply Kd.ybi)); exact HQ32.out⟩, ⟨by repeat (first | (with_reducible first | exact HB.out | apply yad | apply yab | apply yac | refine ybx ?_ GB18.out) | exact HB.out)⟩⟩
                           · rw [if_neg c24] at H
                             exact absurd H (by simp)
                         · rw [if_neg c22] at H
                           exact absurd H (by simp)
                       · rw [if_neg c21] at H
                         exact absurd H (by simp)
                     · rw [if_neg c19] at H
                       have c19b0 : decide (0 < (ji15)) = false := decide_eq_false c19
                       clear c19
                       have H' := Aside0.mk H
                       clear H
                       have p1004 : 0 ≤ (x23_1 : Int) := of_decide_eq_true Z26_
                       have q1004 : x23_1 < (l0.length : Int) := of_decide_eq_true Z26_
                       obtain ⟨ad1004, e1004, hx1004_0⟩ := Kd.ybs HR0.out x23_1 p1004 q1004
                       cases e1004
                       replace hx1004_0 := (HB.out.cell (World.block_lt_of_cell? w _ hx1004_0)).trans hx1004_0
                       replace p1004 := eq_true p1004
                       replace q1004 := eq_true q1004
                       try go_wp2
                       have n0_ := Aside0.mk (Kd.ybi HO_5.out)
                       have n1_ := Aside0.mk (yac HB.out)
                       clear HO_5
                       clear HB
                       have HO_5 := n0_
                       have HB := n1_
                       clear n0_ n1_
                       obtain ⟨Ao34, co34, eo34⟩ := Kd.ybc HO_5.out
                       (first | subst eo34 | (injection eo34 with f1_ f2_ f3_; have f4_ := f1_.symm; have f5_ := f3_.symm; clear f1_ f2_ f3_; subst f4_; subst f5_))
                       have p1005 : 0 ≤ ((ji12) : Int) := of_decide_eq_true Z26_
                       have q1005 : (ji12) < (x5_1.length : Int) := of_decide_eq_true Z26_
                       obtain ⟨ad1005, e1005, hx1005_0⟩ := Kd.ybs (Kd.R_reads' HO_5.out).2.2 (ji12) p1005 q1005
                       cases e1005
                       replace p1005 := eq_true p1005
                       replace q1005 := eq_true q1005
                       have p18 : 0 ≤ ((ji12) : Int) := of_decide_eq_true Z26_
                       have q18 : ((ji12) : Int) < ((x5_1.length : Int) : Int) := of_decide_eq_true Z26_
                       obtain ⟨go18, co18, eo18, gb18, gl18, cl18, HG18⟩ := Kd.yey HO_5.out (by omega)
                       (first | cases eo18 | (injection eo18 with ea_ en_ ec_; (first | subst ea_ | (injection ea_ with ea_; subst ea_)); subst ec_; clear en_))
                       have GB18 := Aside0.mk gb18
                       have GG18 := Aside0.mk HG18
                       clear gb18 gl18 HG18
                       (first | simp only [add_plain] at hx1005_0 | skip)
                       obtain ⟨hx18_0, hf18_0⟩ := Kd.ydb 0 HO_5.out ((ji12) : Int) p18 q18
                       replace p18 := eq_true p18
                       replace q18 := eq_true q18
                       have HP35 := Kd.R_putn HO_5.out ((ji12) : Int) (Go.bits .or .u64 (rd x5_1 (ji12)) (ji17))
                       rw [← Ny1006.out] at HP35
                       have HQ35 := Aside0.mk HP35
                       clear HP35
                       refine yeq (n := 14) (S := fun w' => w'.cell? ⟨go18, ((ji12)).toNat, none⟩ = some (.int .u64 (rd x5_1 (ji12)))) (ds := [13]) Q66_ (by kernel_rfl) rfl rfl (hx1005_0) (fun hHeld => ?_); refine yde yav.tab7 yav.bits7 (fun HT_ HW_ => ?_)
                       generalize wr.drew = w33 at HO_5 HB GG18 HQ35 hf18_0 hx1005_0 hx18_0 hHeld ⊢
                       refine pV 0 28 Q67_ (yae HT_.out (by kernel_rfl)) ?_
                       refine pV 1 29 Q68_ (yae HT_.out (by kernel_rfl)) ?_
                       refine pV 2 30 Q69_ (yae HT_.out (by kernel_rfl)) ?_
                       refine pV 3 31 Q70_ (yae HT_.out (by kernel_rfl)) ?_
                       refine pV 4 32 Q71_ (yae HT_.out (by kernel_rfl)) ?_
                       refine pV 5 33 Q72_ (yae HT_.out (by kernel_rfl)) ?_
                       refine pV 7 35 Q73_ (yae HT_.out (by kernel_rfl)) ?_
                       refine pV 8 36 Q74_ (yae HT_.out (by kernel_rfl)) ?_
                       refine pV 9 37 Q75_ (yae HT_.out (by kernel_rfl)) ?_
                       refine pV 10 38 Q76_ (yae HT_.out (by kernel_rfl)) ?_
                       refine pT1 6 34 Q77_ (ycd HT_.out HW_.out (by kernel_rfl)) hHeld ?_
                       refine pV 11 39 Q78_ (yae HT_.out (by kernel_rfl)) ?_
                       refine pV 12 40 Q79_ (yae HT_.out (by kernel_rfl)) ?_
                       refine last_ (i := 13) (N := none) Q80_ rfl rfl (ydr HT_.out (by kernel_rfl)) (by decide) (fun K hK => ?_)
                       refine skip_ (w1 := ?_) (by rfl) rfl ?_ ?_
                       rotate_left
                       · go_simp
                         rfl
                       refine hK.out _ _ ?_
                       clear hK K
                       refine yfk (ydx HT_.out (by kernel_rfl)) ?_
                       try go_wp2
                       go_roundg k1
                       case measure => have := HK1.out; omega
                       case rel => exact ⟨(y1006), (wrap64 (x23_1 + 1)), Z27_, H', ⟨by have := HK1.out; omega⟩, ⟨by (with_reducible repeat (first | apply Kd.yba | apply Kd.yaz | apply Kd.ybi)); exact HQ35.out⟩, ⟨by repeat (first | (with_reducible first | exact HB.out | apply yad | apply yab | apply yac | refine ybx ?_ GB18.out) | exact HB.out)⟩⟩
                   · rw [if_neg c16] at H
                     exact absurd H (by simp)
                 · rw [if_neg c14] at H
                   exact absurd H (by simp)
               · rw [if_neg c13] at H
                 exact absurd H (by simp)
             · rw [if_neg c11] at H
               exact absurd H (by simp)
           · rw [if_neg c10] at H
             exact absurd H (by simp)
         · rw [if_neg c9] at H
           have c9b0 : decide (x23_1 < (l0.length : Int)) = false := decide_eq_false c9
           clear c9
           replace H := Option.bind_eq_some_iff.mp H
           obtain ⟨t1009, A360, H⟩ := H
           replace H : (some t1009) = some r := H
           have A36 := Aside0.mk A360
           clear A360
           obtain rfl := Option.some.inj H
           obtain ⟨Ao37, co37, eo37⟩ := Kd.ybc HO_5.out
           subst eo37
           go_wp2_with (first | ((with_reducible refine yar (f := 54) rfl ?_); refine yce (some 61) rfl rfl Try.func54 (by kernel_rfl) rfl #[.slice Ao37 x5_1.length co37] rfl Z6_ ?_; (with_reducible refine (ybr.calls k1 _ _ x5_1 t1009 _ ?side1 ?side2 A36.out).mono ?_); (case side1 => repeat (first | exact (Kd.R_reads' HO_5.out).2.2 | (with_reducible refine Kd.yau ?_ _) | (with_reducible refine Kd.yaw ?_ _) | (with_reducible refine Kd.ybe ?_))); (case side2 => exact (Kd.R_reads' HO_5.out).2.1); rintro e w38 ⟨v1010, rfl, ho0, hb⟩; refine ⟨_, rfl, ?_⟩; have n0_ := Aside0.mk (Kd.R_elder' Z19_ (Kd.ycf ho0) hb); have n1_ := Aside0.mk (Kd.ybl (Kd.R_new' ho0 (Kd.R_lt Z19_)) (yaj Z7_)); have n2_ := Aside0.mk (yai Z7_ hb); clear HO_5; clear HB; have HO_5 := n0_; have HO1011 := n1_; have HB := n2_; clear n0_ n1_ n2_; (try clear hb); (try clear hb2); (try clear hk); (try clear hi); (try clear ho0)))
           go_ret
           exact ⟨_, by first | rfl | (simp [yap, yao] <;> rfl) | (simp only [← hji4]; first | rfl | (simp [yap, yao] <;> rfl)) | (simp [*, yap, yao] <;> rfl), by (with_reducible repeat (first | apply Kd.yba | apply Kd.yaz | apply Kd.ybi)); exact Kd.ycn HO1011.out (fun _ hk => trivial), by repeat (first | (with_reducible first | exact HB.out | apply yad | apply yab | apply yac) | exact HB.out)⟩
     · rw [if_neg c6] at H
       exact absurd H (by simp)
   · rw [if_neg c5] at H
     exact absurd H (by simp)
 · rw [if_neg c3] at H
   have c3b0 : decide (a1 < 0) = false := decide_eq_false c3
   clear c3
   by_cases c39 : a1 ≥ (wrap64 (64 * (l0.length : Int)))
   · rw [if_pos c39] at H
     have c39b0 : decide ((wrap64 (64 * (l0.length : Int))) ≤ a1) = true := decide_eq_true c39
     clear c39
     obtain rfl := Option.some.inj H
     go_enter Try.func40, Try.ntmps40
     go_wp2
     go_ret
     exact ⟨_, by first | rfl | (simp [yap, yao] <;> rfl) | (simp [*, yap, yao] <;> rfl), by first | exact Kd.yfv _ _ _ _ _ | exact Kd.yid _ _ _ _ _ | exact Kd.yia _ _ _ _ _ | exact Kd.yic _ _ _ _ _ | exact Kd.yib _ _ _ _ _, by repeat (first | (with_reducible first | exact HB.out | apply yad | apply yab | apply yac) | exact HB.out)⟩
   · rw [if_neg c39] at H
     have c39b0 : decide ((wrap64 (64 * (l0.length : Int))) ≤ a1) = false := decide_eq_false c39
     clear c39
     obtain ⟨ji40, hji40⟩ : ∃ j_ : Int, (wrap64 (Int.tdiv a1 64)) = j_ := ⟨_, rfl⟩
     replace H : (if 0 ≤ (ji40) then (if (ji40) ≤ (l0.length : Int) then ((ycx.f (l0.drop ((ji40) : Int).toNat)).bind fun t1013 => (yav.l1 k l0 a1 t1013 (t1013.length : Int) 0)) else (none)) else (none)) = some r := by first | (rw [hji40] at H; exact H) | (simp only [hji40] at H ⊢; exact H)
     have hji40w : (IntKind.i64.wrap (Int.tdiv a1 64)) = ji40 := (ydk _).trans hji40
     by_cases c41 : 0 ≤ (ji40)
     · rw [if_pos c41] at H
       have c41b0 := eq_true c41
       have c41b1 : decide (0 ≤ (ji40)) = true := decide_eq_true c41
       clear c41
       by_cases c42 : (ji40) ≤ (l0.length : Int)
       · rw [if_pos c42] at H
         have c42b0 := eq_true c42
         have c42b1 : decide ((ji40) ≤ (l0.length : Int)) = true := decide_eq_true c42
         clear c42
         replace H := Option.bind_eq_some_iff.mp H
         obtain ⟨t1013, A430, H⟩ := H
         replace H : (yav.l1 k l0 a1 t1013 (t1013.length : Int) 0) = some r := H
         have A43 := Aside0.mk A430
         clear A430
         have H' := Aside0.mk H
         clear H
         obtain ⟨i044, hi044, _, hsz44, _⟩ := info_parts ygd
         obtain ⟨A44, hcut44, hA44, hC44⟩ := print_drop_of (P := Try.prog) (Value.int .u64) 0 23 61 .i64 Try.underlying23 hi044 hsz44 A0 c0 l0 (ji40) (of_decide_eq_true Z26_) (of_decide_eq_true Z26_) HC0.out
         have HR1012 := Aside0.mk (Kd.yie (h1 := fun _ => rfl) (hA44 _ (Kd.ygc HR0.out)))
         have HC1012 := Aside0.mk hC44
         clear hA44 hC44 hi044 hsz44
         go_enter Try.func40, Try.ntmps40
         go_wp2_with (first | ((with_reducible refine yar (f := 76) rfl ?_); refine yce (some 71) rfl rfl Try.func76 (by kernel_rfl) rfl #[.slice A44 (l0.drop ((ji40) : Int).toNat).length (c0 - (ji40).toNat)] rfl (by (try simp only [List.map_toArray, List.map_cons, List.map_nil]); first | done | (rw [show (l0.drop ((ji40) : Int).toNat).length = (l0.length - (ji40).toNat) from List.length_drop] <;> rfl) | (simp only [hji40]; rfl) | rfl | (simp only [List.length_drop, List.length_take]; rfl)) ?_; (with_reducible refine (ycx.calls _ _ (l0.drop ((ji40) : Int).toNat) t1013 _ ?side1 ?side2 A43.out).mono ?_); (case side1 => repeat (first | exact HR1012.out | (with_reducible refine Kd.yau ?_ _) | (with_reducible refine Kd.yaw ?_ _) | (with_reducible refine Kd.ybe ?_))); (case side2 => exact HC1012.out); rintro e w45 ⟨v1014, rfl, ho0, hb⟩; refine ⟨_, rfl, ?_⟩; have n0_ := Aside0.mk (Kd.ybl ho0 (yaj Z7_)); have n1_ := Aside0.mk (yai Z7_ hb); clear HB; have HO1015 := n0_; have HB := n1_; clear n0_ n1_; (try clear hb); (try clear hb2); (try clear hk); (try clear hi); (try clear ho0); obtain ⟨Ao46, co46, eo46⟩ := Kd.ybc HO1015.out; subst eo46))
         go_loopg [74] k (fun kq v74 w' => ∃ (x8_1 : List Int) (x74_1 : Int), v74 = .int .i64 x74_1 ∧ Aside0 (yav.l1 kq l0 a1 x8_1 (t1013.length : Int) x74_1 = some r) ∧ Aside0 (kq ≤ k) ∧ Aside0 (Kd.R (Kd.int .u64) 61 w' w.heap.size (fun _ => True) (.slice Ao46 t1013.length co46) x8_1) ∧ Aside0 (Below w.heap.size w w'))
         case atStart => exact ⟨(t1013), (0), Z27_, H', ⟨Nat.le_refl _⟩, ⟨by (with_reducible repeat (first | apply Kd.yba | apply Kd.yaz | apply Kd.ybi)); exact HO1015.out⟩, ⟨by repeat (first | (with_reducible first | exact HB.out | apply yad | apply yab | apply yac) | exact HB.out)⟩⟩
         case round =>
          clear H'
          try clear c1
          try clear p1
          try clear q1
          try clear hx1
          try clear c2
          try clear p2
          try clear q2
          try clear hx2
          try clear hf2
          try clear c3
          try clear c3b0
          try clear c4
          try clear c5
          try clear c6
          try clear p6
          try clear c7
          try clear c9
          try clear c9b0
          try clear c10
          try clear p10
          try clear q10
          try clear hx10
          try clear c11
          try clear c13
          try clear c14
          try clear c16
          try clear p18
          try clear q18
          try clear hx18
          try clear hf18
          try clear c19
          try clear c19b0
          try clear c21
          try clear c21b0
          try clear c22
          try clear c22b0
          try clear c24
          try clear c24b0
          try clear c24b1
          try clear p26
          try clear q26
          try clear hx26
          try clear hf26
          try clear c39
          try clear c39b0
          try clear c40
          try clear c41
          try clear c41b0
          try clear c41b1
          try clear c42
          try clear c42b0
          try clear c42b1
          try clear hx1004_0
          try clear hx1005_0
          try clear hx1007_0
          try clear hx18_0
          try clear hx26_0
          try clear p1004
          try clear p1005
          try clear p1007
          try clear p18
          try clear p26
          try clear q1004
          try clear q1005
          try clear q1007
          try clear q18
          try clear q26
          obtain ⟨x8_1, x74_1, rfl, HA, HK1, HO_8, HB⟩ := hrel
          have hl8_1 := (Kd.R_reads' HO_8.out).1
          rw [hl8_1] at HO_8
          (try simp only [hl8_1])
          cases gk with
          | zero => exact absurd HA.out (by simp [yav.l1])
          | succ k1 =>
           have H := HA.out
           clear HA
           simp only [yav.l1] at H
           by_cases c47 : x74_1 < (t1013.length : Int)
           · rw [if_pos c47] at H
             have c47b0 : decide (x74_1 < (t1013.length : Int)) = true := decide_eq_true c47
             (try (have c47b0hl8_1 := c47b0; rw [hl8_1] at c47b0hl8_1))
             clear c47
             by_cases c48 : 0 ≤ x74_1
             · rw [if_pos c48] at H
               have c48b0 : decide (0 ≤ x74_1) = true := decide_eq_true c48
               clear c48
               by_cases c49 : x74_1 < (x8_1.length : Int)
               · rw [if_pos c49] at H
                 have c49b0 : decide (x74_1 < (x8_1.length : Int)) = true := decide_eq_true c49
                 (try (have c49b0hl8_1 := c49b0; rw [hl8_1] at c49b0hl8_1))
                 clear c49
                 obtain ⟨ji50, hji50⟩ : ∃ j_ : Int, (Int.tmod a1 64) = j_ := ⟨_, rfl⟩
                 replace H : (if 0 ≤ (ji50) then ((some (x8_1.set (x74_1 : Int).toNat (shr .u64 (rd x8_1 x74_1) (ji50)) : List Int)).bind fun y1017 => (if (ji50) > 0 then (if (wrap64 (x74_1 + 1)) < (x8_1.length : Int) then (if 0 ≤ (wrap64 ((wrap64 ((wrap64 (Int.tdiv a1 64)) + x74_1)) + 1)) then (if (wrap64 ((wrap64 ((wrap64 (Int.tdiv a1 64)) + x74_1)) + 1)) < (l0.length : Int) then (if 0 ≤ (wrap64 (64 - (ji50))) then (yav.l1 k1 l0 a1 (y1017.set (x74_1 : Int).toNat (Go.bits .or .u64 (rd y1017 x74_1) (shl .u64 (rd l0 (wrap64 ((wrap64 ((wrap64 (Int.tdiv a1 64)) + x74_1)) + 1))) (wrap64 (64 - (ji50)))))) (t1013.length : Int) (wrap64 (x74_1 + 1))) else (none)) else (none)) else (none)) else (yav.l1 k1 l0 a1 y1017 (t1013.length : Int) (wrap64 (x74_1 + 1)))) else (yav.l1 k1 l0 a1 y1017 (t1013.length : Int) (wrap64 (x74_1 + 1))))) else (none)) = some r := by first | (rw [hji50] at H; exact H) | (simp only [hji50] at H ⊢; exact H)
                 by_cases c51 : 0 ≤ (ji50)
                 · rw [if_pos c51] at H
                   have c51b0 := eq_true c51
                   have c51b1 : decide (0 ≤ (ji50)) = true := decide_eq_true c51
                   clear c51
                   obtain ⟨ji52, hji52⟩ : ∃ j_ : Int, (shr .u64 (rd x8_1 x74_1) (ji50)) = j_ := ⟨_, rfl⟩
                   replace H : ((some (x8_1.set (x74_1 : Int).toNat (ji52) : List Int)).bind fun y1017 => (if (ji50) > 0 then (if (wrap64 (x74_1 + 1)) < (x8_1.length : Int) then (if 0 ≤ (wrap64 ((wrap64 ((wrap64 (Int.tdiv a1 64)) + x74_1)) + 1)) then (if (wrap64 ((wrap64 ((wrap64 (Int.tdiv a1 64)) + x74_1)) + 1)) < (l0.length : Int) then (if 0 ≤ (wrap64 (64 - (ji50))) then (yav.l1 k1 l0 a1 (y1017.set (x74_1 : Int).toNat (Go.bits .or .u64 (rd y1017 x74_1) (shl .u64 (rd l0 (wrap64 ((wrap64 ((wrap64 (Int.tdiv a1 64)) + x74_1)) + 1))) (wrap64 (64 - (ji50)))))) (t1013.length : Int) (wrap64 (x74_1 + 1))) else (none)) else (none)) else (none)) else (yav.l1 k1 l0 a1 y1017 (t1013.length : Int) (wrap64 (x74_1 + 1)))) else (yav.l1 k1 l0 a1 y1017 (t1013.length : Int) (wrap64 (x74_1 + 1))))) = some r := by first | (rw [hji52] at H; exact H) | (simp only [hji52] at H ⊢; exact H)
                   have hji52_ : ((rd x8_1 x74_1) / 2 ^ min (ji50).toNat 64) = ji52 := hji52
                   have hji52z : (ji50) ≤ 64 → ((rd x8_1 x74_1) / 2 ^ (ji50).toNat) = ji52 := yfn hji52
                   obtain ⟨y1017, hy1017⟩ : ∃ y_ : List Int, y_ = (x8_1.set (x74_1 : Int).toNat (ji52)) := ⟨_, rfl⟩
                   replace H : (if (ji50) > 0 then (if (wrap64 (x74_1 + 1)) < (x8_1.length : Int) then (if 0 ≤ (wrap64 ((wrap64 ((wrap64 (Int.tdiv a1 64)) + x74_1)) + 1)) then (if (wrap64 ((wrap64 ((wrap64 (Int.tdiv a1 64)) + x74_1)) + 1)) < (l0.length : Int) then (if 0 ≤ (wrap64 (64 - (ji50))) then (yav.l1 k1 l0 a1 (y1017.set (x74_1 : Int).toNat (Go.bits .or .u64 (rd y1017 x74_1) (shl .u64 (rd l0 (wrap64 ((wrap64 ((wrap64 (Int.tdiv a1 64)) + x74_1)) + 1))) (wrap64 (64 - (ji50)))))) (t1013.length : Int) (wrap64 (x74_1 + 1))) else (none)) else (none)) else (none)) else (yav.l1 k1 l0 a1 y1017 (t1013.length : Int) (wrap64 (x74_1 + 1)))) else (yav.l1 k1 l0 a1 y1017 (t1013.length : Int) (wrap64 (x74_1 + 1)))) = some r := by first | (rw [hy1017]; with_reducible exact H) | (have H2_ := (Option.bind_some _ _).symm.trans H; rw [hy1017]; with_reducible exact H2_) | (have H2_ := (Option.bind_some _ _).symm.trans H; with_reducible exact H2_) | with_reducible exact H | (rw [hy1017]; exact H) | exact H
                   have Ny1017 := Aside0.mk hy1017
                   clear hy1017
                   by_cases c54 : (ji50) > 0
                   · rw [if_pos c54] at H
                     have c54b0 : decide (0 < (ji50)) = true := decide_eq_true c54
                     clear c54
                     by_cases c55 : (wrap64 (x74_1 + 1)) < (x8_1.length : Int)
                     · rw [if_pos c55] at H
                       have c55b0 : decide ((wrap64 (x74_1 + 1)) < (x8_1.length : Int)) = true := decide_eq_true c55
                       (try (have c55b0hl8_1 := c55b0; rw [hl8_1] at c55b0hl8_1))
                       clear c55
                       obtain ⟨ji56, hji56⟩ : ∃ j_ : Int, (wrap64 ((wrap64 ((wrap64 (Int.tdiv a1 64)) + x74_1)) + 1)) = j_ := ⟨_, rfl⟩
                       (try (have hji56kji40 := hji56; rw [hji40] at hji56kji40))
                       (try (have hji56wji40 := (ydk _).trans hji56kji40))
                       replace H : (if 0 ≤ (ji56) then (if (ji56) < (l0.length : Int) then (if 0 ≤ (wrap64 (64 - (ji50))) then (yav.l1 k1 l0 a1 (y1017.set (x74_1 : Int).toNat (Go.bits .or .u64 (rd y1017 x74_1) (shl .u64 (rd l0 (ji56)) (wrap64 (64 - (ji50)))))) (t1013.length : Int) (wrap64 (x74_1 + 1))) else (none)) else (none)) else (none)) = some r := by first | (rw [hji56] at H; exact H) | (simp only [hji56] at H ⊢; exact H)
                       have hji56w : (IntKind.i64.wrap ((wrap64 ((wrap64 (Int.tdiv a1 64)) + x74_1)) + 1)) = ji56 := (ydk _).trans hji56
                       by_cases c57 : 0 ≤ (ji56)
                       · rw [if_pos c57] at H
                         have c57b0 : decide (0 ≤ (ji56)) = true := decide_eq_true c57
                         clear c57
                         by_cases c58 : (ji56) < (l0.length : Int)
                         · rw [if_pos c58] at H
                           have c58b0 : decide ((ji56) < (l0.length : Int)) = true := decide_eq_true c58
                           (try (have c58b0hl8_1 := c58b0; rw [hl8_1] at c58b0hl8_1))
                           clear c58
                           obtain ⟨ji59, hji59⟩ : ∃ j_ : Int, (wrap64 (64 - (ji50))) = j_ := ⟨_, rfl⟩
                           replace H : (if 0 ≤ (ji59) then (yav.l1 k1 l0 a1 (y1017.set (x74_1 : Int).toNat (Go.bits .or .u64 (rd y1017 x74_1) (shl .u64 (rd l0 (ji56)) (ji59)))) (t1013.length : Int) (wrap64 (x74_1 + 1))) else (none)) = some r := by first | (rw [hji59] at H; exact H) | (simp only [hji59] at H ⊢; exact H)
                           have hji59w : (IntKind.i64.wrap (64 - (ji50))) = ji59 := (ydk _).trans hji59
                           by_cases c60 : 0 ≤ (ji59)
                           · rw [if_pos c60] at H
                             have c60b0 := eq_true c60
                             have c60b1 : decide (0 ≤ (ji59)) = true := decide_eq_true c60
                             clear c60
                             obtain ⟨ji61, hji61⟩ : ∃ j_ : Int, (shl .u64 (rd l0 (ji56)) (ji59)) = j_ := ⟨_, rfl⟩
                             replace H : (yav.l1 k1 l0 a1 (y1017.set (x74_1 : Int).toNat (Go.bits .or .u64 (rd y1017 x74_1) (ji61))) (t1013.length : Int) (wrap64 (x74_1 + 1))) = some r := by first | (rw [hji61] at H; exact H) | (simp only [hji61] at H ⊢; exact H)
                             have hji61_ : (IntKind.u64.wrap ((rd l0 (ji56)) * 2 ^ min (ji59).toNat 64)) = ji61 := hji61
                             have hji61z : (ji59) ≤ 64 → (IntKind.u64.wrap ((rd l0 (ji56)) * 2 ^ (ji59).toNat)) = ji61 := ygb hji61
                             obtain ⟨y1020, hy1020⟩ : ∃ y_ : List Int, y_ = (y1017.set (x74_1 : Int).toNat (Go.bits .or .u64 (rd y1017 x74_1) (ji61))) := ⟨_, rfl⟩
                             replace H : (yav.l1 k1 l0 a1 y1020 (t1013.length : Int) (wrap64 (x74_1 + 1))) = some r := by first | (rw [hy1020]; with_reducible exact H) | (have H2_ := (Option.bind_some _ _).symm.trans H; rw [hy1020]; with_reducible exact H2_) | (have H2_ := (Option.bind_some _ _).symm.trans H; with_reducible exact H2_) | with_reducible exact H | (rw [hy1020]; exact H) | exact H
                             have Ny1020 := Aside0.mk hy1020
                             clear hy1020
                             have H' := Aside0.mk H
                             clear H
                             have p1016 : 0 ≤ (x74_1 : Int) := of_decide_eq_true Z26_
                             have q1016 : x74_1 < (x8_1.length : Int) := of_decide_eq_true Z26_
                             obtain ⟨ad1016, e1016, hx1016_0⟩ := Kd.ybs (Kd.R_reads' HO_8.out).2.2 x74_1 p1016 q1016
                             cases e1016
                             replace p1016 := eq_true p1016
                             replace q1016 := eq_true q1016
                             have p53 : 0 ≤ (x74_1 : Int) := of_decide_eq_true Z26_
                             have q53 : (x74_1 : Int) < ((x8_1.length : Int) : Int) := of_decide_eq_true Z26_
                             obtain ⟨go53, co53, eo53, gb53, gl53, cl53, HG53⟩ := Kd.yey HO_8.out (by omega)
                             (first | cases eo53 | (injection eo53 with ea_ en_ ec_; (first | subst ea_ | (injection ea_ with ea_; subst ea_)); subst ec_; clear en_))
                             have GB53 := Aside0.mk gb53
                             have GG53 := Aside0.mk HG53
                             clear gb53 gl53 HG53
                             (first | simp only [add_plain] at hx1016_0 | skip)
                             obtain ⟨hx53_0, hf53_0⟩ := Kd.ydb 0 HO_8.out (x74_1 : Int) p53 q53
                             replace p53 := eq_true p53
                             replace q53 := eq_true q53
                             have HP63 := Kd.yej HO_8.out (x74_1 : Int) ji52
                             try go_wp2_with (first | ((with_reducible refine ycm (t := 61) (p := 84) rfl ?_); refine ycw (t := 61) (p := 84) (v := ?vo_w64) (w1 := (wr.setCell ⟨go53, (x74_1 : Int).toNat, none⟩ (.int .u64 ji52))) ?hg ?ho ?hn ?hr ?_; (case ho => rfl); (case hg => rfl); (case hn => rfl); (case hr => first | (go_simp; done) | (go_simp; rfl)); intro w64 hw; have hg : wr.grownBy w64 (some go53) := (by rw [hw]; exact HP63.2); have hp_ : Kd.R (Kd.int .u64) 61 w64 w.heap.size (fun _ => True) (.slice (some ⟨go53, 0, none⟩) x8_1.length co46) y1017 := (by rw [hw, Ny1017.out]; exact HP63.1); clear HP63; have n0_ := Aside0.mk (hp_); have n1_ := Aside0.mk ((by rw [hw]; exact ybx (HB.out) GB53.out : Below w.heap.size w w64)); clear HO_8; clear HB; have HO_8 := n0_; have HB := n1_; clear n0_ n1_; clear hg hw hp_))
                             have n0_ := Aside0.mk (Kd.ybi HO_8.out)
                             have n1_ := Aside0.mk (yac HB.out)
                             clear HO_8
                             clear HB
                             have HO_8 := n0_
                             have HB := n1_
                             clear n0_ n1_
                             have p1018 : 0 ≤ (x74_1 : Int) := of_decide_eq_true Z26_
                             have q1018 : x74_1 < (y1017.length : Int) := (by have h_ : (x74_1 : Int) < ((x8_1.length : Int) : Int) := of_decide_eq_true Z26_; first | (have e_ := (Kd.R_reads' HO_8.out).1; omega) | simpa only [Ny1017.out, List.length_set] using h_)
                             have ql1018 : ((x74_1 : Int) < ((x8_1.length : Int) : Int)) = True := eq_true (of_decide_eq_true Z26_)
                             obtain ⟨ad1018, e1018, hx1018_0⟩ := Kd.ybs (Kd.R_reads' HO_8.out).2.2 x74_1 p1018 q1018
                             obtain rfl : (⟨go53, 0, none⟩ : Addr) = ad1018 := (by injection e1018)
                             (first | simp only [add_plain] at hx1018_0 | simp only [add_at] at hx1018_0 | simp only [Addr.add, Nat.zero_add] at hx1018_0 | skip)
                             replace p1018 := eq_true p1018
                             replace q1018 := eq_true q1018
                             have p1019 : 0 ≤ ((ji56) : Int) := of_decide_eq_true Z26_
                             have q1019 : (ji56) < (l0.length : Int) := of_decide_eq_true Z26_
                             obtain ⟨ad1019, e1019, hx1019_0⟩ := Kd.ybs HR0.out (ji56) p1019 q1019
                             have hw1019_0 := hx1019_0
                             cases e1019
                             replace hx1019_0 := (HB.out.cell (World.block_lt_of_cell? w _ hx1019_0)).trans hx1019_0
                             replace p1019 := eq_true p1019
                             replace q1019 := eq_true q1019
                             have p62 : 0 ≤ (x74_1 : Int) := of_decide_eq_true Z26_
                             have q62 : (x74_1 : Int) < ((x8_1.length : Int) : Int) := of_decide_eq_true Z26_
                             obtain ⟨hx62_0, hf62_0⟩ := Kd.ydb 0 HO_8.out (x74_1 : Int) p62 q62
                             replace p62 := eq_true p62
                             replace q62 := eq_true q62
                             have HP66 := Kd.R_putn HO_8.out (x74_1 : Int) (Go.bits .or .u64 (rd y1017 x74_1) (ji61))
                             rw [← Ny1020.out] at HP66
                             have HQ66 := Aside0.mk HP66
                             clear HP66
                             refine yeq (n := 19) (S := fun w' => w'.cell? ⟨go53, (x74_1).toNat, none⟩ = some (.int .u64 (rd y1017 x74_1)) ∧ w'.cell? (ad1019.add ((ji56)).toNat) = some (.int .u64 (rd l0 (ji56)))) (ds := [18]) Q137_ (by kernel_rfl) rfl rfl ⟨hx1018_0, ((HB.out.cell (World.block_lt_of_cell? w _ hw1019_0)).trans hw1019_0)⟩ (fun hHeld => ?_); refine yde yav.tab20 yav.bits20 (fun HT_ HW_ => ?_)
                             generalize w64.drew = w65 at HO_8 HB HQ66 hf62_0 hx1018_0 hx1019_0 hx62_0 hHeld ⊢
                             refine pV 0 95 Q138_ (yae HT_.out (by kernel_rfl)) ?_
                             refine pV 1 96 Q139_ (yae HT_.out (by kernel_rfl)) ?_
                             refine pV 2 97 Q140_ (yae HT_.out (by kernel_rfl)) ?_
                             refine pV 4 99 Q141_ (yae HT_.out (by kernel_rfl)) ?_
                             refine pV 5 100 Q142_ (yae HT_.out (by kernel_rfl)) ?_
                             refine pV 6 101 Q143_ (yae HT_.out (by kernel_rfl)) ?_
                             refine pV 7 102 Q144_ (yae HT_.out (by kernel_rfl)) ?_
                             refine pV 8 103 Q145_ (yae HT_.out (by kernel_rfl)) ?_
                             refine pV 9 104 Q146_ (yae HT_.out (by kernel_rfl)) ?_
                             refine pV 10 105 Q147_ (yae HT_.out (by kernel_rfl)) ?_
                             refine pV 12 107 Q148_ (yae HT_.out (by kernel_rfl)) ?_
                             refine pV 13 108 Q149_ (yae HT_.out (by kernel_rfl)) ?_
                             refine pV 14 109 Q150_ (yae HT_.out (by kernel_rfl)) ?_
                             refine pT2 3 98 Q151_ (ycd HT_.out HW_.out (by kernel_rfl)) hHeld ?_
                             refine pT2 11 106 Q152_ (ycd HT_.out HW_.out (by kernel_rfl)) hHeld ?_
                             refine pV 15 110 Q153_ (yae HT_.out (by kernel_rfl)) ?_
                             refine pV 16 111 Q154_ (yae HT_.out (by kernel_rfl)) ?_
                             refine pV 17 112 Q155_ (yae HT_.out (by kernel_rfl)) ?_
                             refine last_ (i := 18) (N := none) Q156_ rfl rfl (ydr HT_.out (by kernel_rfl)) (by decide) (fun K hK => ?_)
                             refine skip_ (w1 := ?_) (by rfl) rfl ?_ ?_
                             rotate_left
                             · go_simp
                               rfl
                             refine hK.out _ _ ?_
                             clear hK K
                             refine yfk (ydx HT_.out (by kernel_rfl)) ?_
                             try go_wp2
                             (try simp only [← hl8_1])
                             go_roundg k1
                             case measure => have := HK1.out; omega
                             case rel => exact ⟨(y1020), (wrap64 (x74_1 + 1)), Z27_, H', ⟨by have := HK1.out; omega⟩, ⟨by (try simp only [hl8_1]); (with_reducible repeat (first | apply Kd.yba | apply Kd.yaz | apply Kd.ybi)); exact HQ66.out⟩, ⟨by repeat (first | (with_reducible first | exact HB.out | apply yad | apply yab | apply yac | refine ybx ?_ GB53.out) | exact HB.out)⟩⟩
                           · rw [if_neg c60] at H
                             exact absurd H (by simp)
                         · rw [if_neg c58] at H
                           exact absurd H (by simp)
                       · rw [if_neg c57] at H
                         exact absurd H (by simp)
                     · rw [if_neg c55] at H
                       have c55b0 : decide ((wrap64 (x74_1 + 1)) < (x8_1.length : Int)) = false := decide_eq_false c55
                       (try (have c55b0hl8_1 := c55b0; rw [hl8_1] at c55b0hl8_1))
                       clear c55
                       have H' := Aside0.mk H
                       clear H
                       have p1016 : 0 ≤ (x74_1 : Int) := of_decide_eq_true Z26_
                       have q1016 : x74_1 < (x8_1.length : Int) := of_decide_eq_true Z26_
                       obtain ⟨ad1016, e1016, hx1016_0⟩ := Kd.ybs (Kd.R_reads' HO_8.out).2.2 x74_1 p1016 q1016
                       cases e1016
                       replace p1016 := eq_true p1016
                       replace q1016 := eq_true q1016
                       have p53 : 0 ≤ (x74_1 : Int) := of_decide_eq_true Z26_
                       have q53 : (x74_1 : Int) < ((x8_1.length : Int) : Int) := of_decide_eq_true Z26_
                       obtain ⟨go53, co53, eo53, gb53, gl53, cl53, HG53⟩ := Kd.yey HO_8.out (by omega)
                       (first | cases eo53 | (injection eo53 with ea_ en_ ec_; (first | subst ea_ | (injection ea_ with ea_; subst ea_)); subst ec_; clear en_))
                       have GB53 := Aside0.mk gb53
                       have GG53 := Aside0.mk HG53
                       clear gb53 gl53 HG53
                       (first | simp only [add_plain] at hx1016_0 | skip)
                       obtain ⟨hx53_0, hf53_0⟩ := Kd.ydb 0 HO_8.out (x74_1 : Int) p53 q53
                       replace p53 := eq_true p53
                       replace q53 := eq_true q53
                       have HP67 := Kd.yej HO_8.out (x74_1 : Int) ji52
                       go_wp2_with (first | ((with_reducible refine ycm (t := 61) (p := 84) rfl ?_); refine ycw (t := 61) (p := 84) (v := ?vo_w68) (w1 := (wr.setCell ⟨go53, (x74_1 : Int).toNat, none⟩ (.int .u64 ji52))) ?hg ?ho ?hn ?hr ?_; (case ho => rfl); (case hg => rfl); (case hn => rfl); (case hr => first | (go_simp; done) | (go_simp; rfl)); intro w68 hw; have hg : wr.grownBy w68 (some go53) := (by rw [hw]; exact HP67.2); have hp_ : Kd.R (Kd.int .u64) 61 w68 w.heap.size (fun _ => True) (.slice (some ⟨go53, 0, none⟩) x8_1.length co46) y1017 := (by rw [hw, Ny1017.out]; exact HP67.1); clear HP67; have n0_ := Aside0.mk (hp_); have n1_ := Aside0.mk ((by rw [hw]; exact ybx (HB.out) GB53.out : Below w.heap.size w w68)); clear HO_8; clear HB; have HO_8 := n0_; have HB := n1_; clear n0_ n1_; clear hg hw hp_))
                       (try simp only [← hl8_1])
                       go_roundg k1
                       case measure => have := HK1.out; omega
                       case rel => exact ⟨(y1017), (wrap64 (x74_1 + 1)), Z27_, H', ⟨by have := HK1.out; omega⟩, ⟨by (try simp only [hl8_1]); (with_reducible repeat (first | apply Kd.yba | apply Kd.yaz | apply Kd.ybi)); exact HO_8.out⟩, ⟨by repeat (first | (with_reducible first | exact HB.out | apply yad | apply yab | apply yac) | exact HB.out)⟩⟩
                   · rw [if_neg c54] at H
                     have c54b0 : decide (0 < (ji50)) = false := decide_eq_false c54
                     clear c54
                     have H' := Aside0.mk H
                     clear H
                     have p1016 : 0 ≤ (x74_1 : Int) := of_decide_eq_true Z26_
                     have q1016 : x74_1 < (x8_1.length : Int) := of_decide_eq_true Z26_
                     obtain ⟨ad1016, e1016, hx1016_0⟩ := Kd.ybs (Kd.R_reads' HO_8.out).2.2 x74_1 p1016 q1016
                     cases e1016
                     replace p1016 := eq_true p1016
                     replace q1016 := eq_true q1016
                     have p53 : 0 ≤ (x74_1 : Int) := of_decide_eq_true Z26_
                     have q53 : (x74_1 : Int) < ((x8_1.length : Int) : Int) := of_decide_eq_true Z26_
                     obtain ⟨go53, co53, eo53, gb53, gl53, cl53, HG53⟩ := Kd.yey HO_8.out (by omega)
                     (first | cases eo53 | (injection eo53 with ea_ en_ ec_; (first | subst ea_ | (injection ea_ with ea_; subst ea_)); subst ec_; clear en_))
                     have GB53 := Aside0.mk gb53
                     have GG53 := Aside0.mk HG53
                     clear gb53 gl53 HG53
                     (first | simp only [add_plain] at hx1016_0 | skip)
                     obtain ⟨hx53_0, hf53_0⟩ := Kd.ydb 0 HO_8.out (x74_1 : Int) p53 q53
                     replace p53 := eq_true p53
                     replace q53 := eq_true q53
                     have HP69 := Kd.yej HO_8.out (x74_1 : Int) ji52
                     go_wp2_with (first | ((with_reducible refine ycm (t := 61) (p := 84) rfl ?_); refine ycw (t := 61) (p := 84) (v := ?vo_w70) (w1 := (wr.setCell ⟨go53, (x74_1 : Int).toNat, none⟩ (.int .u64 ji52))) ?hg ?ho ?hn ?hr ?_; (case ho => rfl); (case hg => rfl); (case hn => rfl); (case hr => first | (go_simp; done) | (go_simp; rfl)); intro w70 hw; have hg : wr.grownBy w70 (some go53) := (by rw [hw]; exact HP69.2); have hp_ : Kd.R (Kd.int .u64) 61 w70 w.heap.size (fun _ => True) (.slice (some ⟨go53, 0, none⟩) x8_1.length co46) y1017 := (by rw [hw, Ny1017.out]; exact HP69.1); clear HP69; have n0_ := Aside0.mk (hp_); have n1_ := Aside0.mk ((by rw [hw]; exact ybx (HB.out) GB53.out : Below w.heap.size w w70)); clear HO_8; clear HB; have HO_8 := n0_; have HB := n1_; clear n0_ n1_; clear hg hw hp_))
                     (try simp only [← hl8_1])
                     go_roundg k1
                     case measure => have := HK1.out; omega
                     case rel => exact ⟨(y1017), (wrap64 (x74_1 + 1)), Z27_, H', ⟨by have := HK1.out; omega⟩, ⟨by (try simp only [hl8_1]); (with_reducible repeat (first | apply Kd.yba | apply Kd.yaz | apply Kd.ybi)); exact HO_8.out⟩, ⟨by repeat (first | (with_reducible first | exact HB.out | apply yad | apply yab | apply yac) | exact HB.out)⟩⟩
                 · rw [if_neg c51] at H
                   exact absurd H (by simp)
               · rw [if_neg c49] at H
                 exact absurd H (by simp)
             · rw [if_neg c48] at H
               exact absurd H (by simp)
           · rw [if_neg c47] at H
             have c47b0 : decide (x74_1 < (t1013.length : Int)) = false := decide_eq_false c47
             (try (have c47b0hl8_1 := c47b0; rw [hl8_1] at c47b0hl8_1))
             clear c47
             replace H := Option.bind_eq_some_iff.mp H
             obtain ⟨t1021, A710, H⟩ := H
             replace H : (some t1021) = some r := H
             have A71 := Aside0.mk A710
             clear A710
             obtain rfl := Option.some.inj H
             go_wp2_with (first | ((with_reducible refine yar (f := 54) rfl ?_); refine yce (some 115) rfl rfl Try.func54 (by kernel_rfl) rfl #[.slice Ao46 x8_1.length co46] rfl Z6_ ?_; (with_reducible refine (ybr.calls k1 _ _ x8_1 t1021 _ ?side1 ?side2 A71.out).mono ?_); (case side1 => repeat (first | exact (Kd.R_reads' HO_8.out).2.2 | (with_reducible refine Kd.yau ?_ _) | (with_reducible refine Kd.yaw ?_ _) | (with_reducible refine Kd.ybe ?_))); (case side2 => exact (Kd.R_reads' HO_8.out).2.1); rintro e w72 ⟨v1022, rfl, ho0, hb⟩; refine ⟨_, rfl, ?_⟩; have n0_ := Aside0.mk (Kd.R_elder' (by (with_reducible repeat (first | apply Kd.yba | apply Kd.yaz | apply Kd.ybi)); exact HO_8.out) (Kd.ycf ho0) hb); have n1_ := Aside0.mk (Kd.ybl (Kd.R_new' ho0 (Kd.R_lt (by (with_reducible repeat (first | apply Kd.yba | apply Kd.yaz | apply Kd.ybi)); exact HO_8.out))) (yaj Z7_)); have n2_ := Aside0.mk (yai Z7_ hb); clear HO_8; clear HB; have HO_8 := n0_; have HO1023 := n1_; have HB := n2_; clear n0_ n1_ n2_; (try clear hb); (try clear hb2); (try clear hk); (try clear hi); (try clear ho0)))
             go_ret
             exact ⟨_, by first | rfl | (simp [yap, yao] <;> rfl) | (simp only [← hji40]; first | rfl | (simp [yap, yao] <;> rfl)) | (simp [*, yap, yao] <;> rfl), by (with_reducible repeat (first | apply Kd.yba | apply Kd.yaz | apply Kd.ybi)); exact Kd.ycn HO1023.out (fun _ hk => trivial), by repeat (first | (with_reducible first | exact HB.out | apply yad | apply yab | apply yac) | exact HB.out)⟩
       · rw [if_neg c42] at H
         exact absurd H (by simp)
     · rw [if_neg c41] at H
       exact absurd H (by simp)
end Go.Proofs.Ytgnaaaliadiekaa.B
end
