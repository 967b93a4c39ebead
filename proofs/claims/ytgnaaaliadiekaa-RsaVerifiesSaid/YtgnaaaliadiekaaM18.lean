/- A part of the proof (merged by pack.py, a program of this session: what the row's proof names). -/
import Derived.Test.YtgnaaaliadiekaaM4
import Derived.Test.YtgnaaaliadiekaaM0
section
namespace Go.Proofs.Ytgnaaaliadiekaa.B
open Go.RowKit Go.Proofs.YtgnaaaliadiekaaW.PrintWords Go.Proofs.YtgnaaaliadiekaaW.PrintLast Go.Proofs.YtgnaaaliadiekaaW.PrintMore
attribute [local go_sem] ycj ych ycs ycr ybw ybv yci ycg   -- for this text's walks alone
attribute [local go_sem] yca ybn ybz ybm
set_option linter.unusedVariables false
set_option linter.unusedSimpArgs false
def ydc.f (l0 : List Int) (a1 : Int) : Option (Int) := if (wrap64 (Int.tdiv a1 16)) ≥ (l0.length : Int) then (some 0) else (if 0 ≤ (wrap64 (Int.tdiv a1 16)) then (if (wrap64 (Int.tdiv a1 16)) < (l0.length : Int) then (if 0 ≤ (Int.tmod a1 16) then (some (Int.tmod (shr .i64 (rd l0 (wrap64 (Int.tdiv a1 16))) (Int.tmod a1 16)) 2)) else (none)) else (none)) else (none))
set_option maxHeartbeats 8000000 in
set_option maxRecDepth 100000 in
theorem ydc.calls (A0 : Option Addr) (c0 : Nat) (l0 : List Int) (a1 : Int) (r : Int) (w : World) (hr0 : Kd.C (Kd.int .i64) w A0 l0.length l0) (hc0 : l0.length ≤ c0) (h : ydc.f l0 a1 = some r) :
 Calls Try.prog 45 #[.slice A0 l0.length c0, .int .i64 a1] w fun e w' => e = .returned (.int .i64 r) ∧ ybj w w' := by
 have HR0 := Aside0.mk hr0
 have HC0 := Aside0.mk hc0
 clear hr0 hc0
 have H : (if (wrap64 (Int.tdiv a1 16)) ≥ (l0.length : Int) then (some 0) else (if 0 ≤ (wrap64 (Int.tdiv a1 16)) then (if (wrap64 (Int.tdiv a1 16)) < (l0.length : Int) then (if 0 ≤ (Int.tmod a1 16) then (some (Int.tmod (shr .i64 (rd l0 (wrap64 (Int.tdiv a1 16))) (Int.tmod a1 16)) 2)) else (none)) else (none)) else (none))) = some r := h
 clear h
 by_cases c3 : (wrap64 (Int.tdiv a1 16)) ≥ (l0.length : Int)
 · rw [if_pos c3] at H
   have c3b0 : decide ((l0.length : Int) ≤ (wrap64 (Int.tdiv a1 16))) = true := decide_eq_true c3
   clear c3
   obtain rfl := Option.some.inj H
   go_enter Try.func45, Try.ntmps45
   go_wp2
   go_ret
   exact ⟨by first | rfl | (simp; done) | (simp [*]; done), by repeat (first | exact ybj.refl _ | apply ybj.step)⟩
 · rw [if_neg c3] at H
   have c3b0 : decide ((l0.length : Int) ≤ (wrap64 (Int.tdiv a1 16))) = false := decide_eq_false c3
   clear c3
   obtain ⟨ji4, hji4⟩ : ∃ j_ : Int, (wrap64 (Int.tdiv a1 16)) = j_ := ⟨_, rfl⟩
   replace H : (if 0 ≤ (ji4) then (if (ji4) < (l0.length : Int) then (if 0 ≤ (Int.tmod a1 16) then (some (Int.tmod (shr .i64 (rd l0 (ji4)) (Int.tmod a1 16)) 2)) else (none)) else (none)) else (none)) = some r := by first | (rw [hji4] at H; exact H) | (simp only [hji4] at H ⊢; exact H)
   (try rw [hji4] at c3b0)
   have hji4w : (IntKind.i64.wrap (Int.tdiv a1 16)) = ji4 := (ydk _).trans hji4
   by_cases c5 : 0 ≤ (ji4)
   · rw [if_pos c5] at H
     have c5b0 : decide (0 ≤ (ji4)) = true := decide_eq_true c5
     clear c5
     by_cases c6 : (ji4) < (l0.length : Int)
     · rw [if_pos c6] at H
       have c6b0 : decide ((ji4) < (l0.length : Int)) = true := decide_eq_true c6
       clear c6
       obtain ⟨ji7, hji7⟩ : ∃ j_ : Int, (Int.tmod a1 16) = j_ := ⟨_, rfl⟩
       replace H : (if 0 ≤ (ji7) then (some (Int.tmod (shr .i64 (rd l0 (ji4)) (ji7)) 2)) else (none)) = some r := by first | (rw [hji7] at H; exact H) | (simp only [hji7] at H ⊢; exact H)
       by_cases c8 : 0 ≤ (ji7)
       · rw [if_pos c8] at H
         have c8b0 := eq_true c8
         have c8b1 : decide (0 ≤ (ji7)) = true := decide_eq_true c8
         clear c8
         obtain ⟨ji9, hji9⟩ : ∃ j_ : Int, (shr .i64 (rd l0 (ji4)) (ji7)) = j_ := ⟨_, rfl⟩
         replace H : (some (Int.tmod (ji9) 2)) = some r := by first | (rw [hji9] at H; exact H) | (simp only [hji9] at H ⊢; exact H)
         have hji9_ : ((rd l0 (ji4)) / 2 ^ min (ji7).toNat 64) = ji9 := hji9
         have hji9z : (ji7) ≤ 64 → ((rd l0 (ji4)) / 2 ^ (ji7).toNat) = ji9 := yfn hji9
         obtain rfl := Option.some.inj H
         have p1001 : 0 ≤ ((ji4) : Int) := of_decide_eq_true Z26_
         have q1001 : (ji4) < (l0.length : Int) := of_decide_eq_true Z26_
         obtain ⟨ad1001, e1001, hx1001_0⟩ := Kd.ybs HR0.out (ji4) p1001 q1001
         cases e1001
         replace p1001 := eq_true p1001
         replace q1001 := eq_true q1001
         go_enter Try.func45, Try.ntmps45
         go_wp2
         go_ret
         exact ⟨by first | rfl | (simp; done) | (simp only [← hji4, ← hji7, ← hji9] <;> (first | rfl | simp)) | (simp [*]; done), by repeat (first | exact ybj.refl _ | apply ybj.step)⟩
       · rw [if_neg c8] at H
         exact absurd H (by simp)
     · rw [if_neg c6] at H
       exact absurd H (by simp)
   · rw [if_neg c5] at H
     exact absurd H (by simp)
end Go.Proofs.Ytgnaaaliadiekaa.B
end
section
namespace Go.Proofs.Ytgnaaaliadiekaa.B
open Go.RowKit Go.Proofs.YtgnaaaliadiekaaW.PrintWords Go.Proofs.YtgnaaaliadiekaaW.PrintLast Go.Proofs.YtgnaaaliadiekaaW.PrintMore
attribute [local go_sem] ycj ych ycs ycr ybw ybv yci ycg   -- for this text's walks alone
attribute [local go_sem] yca ybn ybz ybm
set_option linter.unusedVariables false
set_option linter.unusedSimpArgs false
def yat.l0 : Nat → Int → List Int → Option (List Int)
 | 0, _, _ => none
 | k + 1, x0, x3 => if x0 > 0 then (if x3.length < 17592186044416 then (yat.l0 k (wrap64 (Int.tdiv x0 65536)) (x3 ++ [Int.tmod x0 65536])) else (none)) else (some x3)
def yat.f (k : Nat) (a0 : Int) : Option (List Int) := yat.l0 k a0 ([] : List Int)
set_option maxHeartbeats 8000000 in
set_option maxRecDepth 100000 in
theorem yat.calls (k : Nat) (a0 : Int) (r : List Int) (w : World) (h : yat.f k a0 = some r) :
 Calls Try.prog 51 #[.int .i64 a0] w fun e w' => ∃ v0_ : Value, e = .returned (v0_) ∧ Kd.R (Kd.int .i64) 3 w' w.heap.size (fun _ => True) v0_ r ∧ Below w.heap.size w w' := by
 have HB := Aside0.mk (Below.refl w.heap.size w)
 have H : (yat.l0 k a0 ([] : List Int)) = some r := h
 clear h
 have H' := Aside0.mk H
 clear H
 go_enter Try.func51, Try.ntmps51
 go_wp2
 go_loopg [0, 3] k (fun kq v0 v3 w' => ∃ (x0_1 : Int) (x3_1 : List Int), v0 = .int .i64 x0_1 ∧ Aside0 (yat.l0 kq x0_1 x3_1 = some r) ∧ Aside0 (kq ≤ k) ∧ Aside0 (Kd.R (Kd.int .i64) 3 w' w.heap.size (fun _ => True) v3 x3_1) ∧ Aside0 (Below w.heap.size w w'))
 case atStart => exact ⟨(a0), (([] : List Int)), Z27_, H', ⟨Nat.le_refl _⟩, ⟨by first | exact Kd.yfv _ _ _ _ _ | exact Kd.yid _ _ _ _ _ | exact Kd.yia _ _ _ _ _ | exact Kd.yic _ _ _ _ _ | exact Kd.yib _ _ _ _ _⟩, ⟨by repeat (first | (with_reducible first | exact HB.out | apply yad | apply yab | apply yac) | exact HB.out)⟩⟩
 case round =>
  clear H'
  obtain ⟨x0_1, x3_1, rfl, HA, HK1, HO_3, HB⟩ := hrel
  cases gk with
  | zero => exact absurd HA.out (by simp [yat.l0])
  | succ k1 =>
   have H := HA.out
   clear HA
   simp only [yat.l0] at H
   by_cases c2 : x0_1 > 0
   · rw [if_pos c2] at H
     have c2b0 : decide (0 < x0_1) = true := decide_eq_true c2
     clear c2
     by_cases c3 : x3_1.length < 17592186044416
     · rw [if_pos c3] at H
       have LMc3 := Aside0.mk c3
       clear c3
       obtain ⟨y1001, hy1001⟩ : ∃ y_ : List Int, y_ = (x3_1 ++ [Int.tmod x0_1 65536]) := ⟨_, rfl⟩
       replace H : (yat.l0 k1 (wrap64 (Int.tdiv x0_1 65536)) y1001) = some r := by first | (rw [hy1001]; with_reducible exact H) | (have H2_ := (Option.bind_some _ _).symm.trans H; rw [hy1001]; with_reducible exact H2_) | (have H2_ := (Option.bind_some _ _).symm.trans H; with_reducible exact H2_) | with_reducible exact H | (rw [hy1001]; exact H) | exact H
       have Ny1001 := Aside0.mk hy1001
       clear hy1001
       have H' := Aside0.mk H
       clear H
       go_wp2_with (first | ((with_reducible refine ycl (b := .append) (xs := #[.tmp 6, .tmp 9]) rfl ?_); at_builtin; refine Kd.ydz (Kd.int .i64) (w0 := w) w.heap.size rfl (.tmp 6) (.tmp 9) 28 3 (.int .i64 0) 8 rfl Try.underlying28 info3 rfl (by decide) (by omega) u3 x3_1 (Int.tmod x0_1 65536) [.int .i64 (Int.tmod x0_1 65536)] (fun _ => True) (fun _ => False) rfl rfl ?aP (fun _ hk => hk.elim) ?aF ?aO ?aB ?aS ?aL ?_; (case aP => exact rfl); (case aB => exact Z7_); (case aF => exact (fun _ _ => trivial)); (case aO => exact Z18_); (case aS => exact (yaj Z7_)); (case aL => have := LMc3.out; omega); intro v1002 w4 ho hb hg hat; rw [← Ny1001.out] at ho; have n0_ := Aside0.mk (hb); have n1_ := Aside0.mk (ho); clear HB; clear HO_3; have HB := n0_; have HO1003 := n1_; clear n0_ n1_; clear ho hb hg hat))
       go_roundg k1
       case measure => have := HK1.out; omega
       case rel => exact ⟨(wrap64 (Int.tdiv x0_1 65536)), (y1001), Z27_, H', ⟨by have := HK1.out; omega⟩, ⟨by (with_reducible repeat (first | apply Kd.yba | apply Kd.yaz | apply Kd.ybi)); exact HO1003.out⟩, ⟨by repeat (first | (with_reducible first | exact HB.out | apply yad | apply yab | apply yac) | exact HB.out)⟩⟩
     · rw [if_neg c3] at H
       exact absurd H (by simp)
   · rw [if_neg c2] at H
     have c2b0 : decide (0 < x0_1) = false := decide_eq_false c2
     clear c2
     obtain rfl := Option.some.inj H
     go_wp2
     go_ret
     exact ⟨_, by first | rfl | (simp [yap, yao] <;> rfl) | (simp [*, yap, yao] <;> rfl), by (with_reducible repeat (first | apply Kd.yba | apply Kd.yaz | apply Kd.ybi)); exact HO_3.out, by repeat (first | (with_reducible first | exact HB.out | apply yad | apply yab | apply yac) | exact HB.out)⟩
end Go.Proofs.Ytgnaaaliadiekaa.B
end
