/- A part of the proof (merged by pack.py, a program of this session: what the row's proof names). -/
import Derived.Test.YtgnaaaliadiekaaM4
import Derived.Test.YtgnaaaliadiekaaM13
import Derived.Test.YtgnaaaliadiekaaM14
import Derived.Test.YtgnaaaliadiekaaM0
section
namespace Go.Proofs.Ytgnaaaliadiekaa.B
open Go.RowKit Go.Proofs.YtgnaaaliadiekaaW.PrintWords Go.Proofs.YtgnaaaliadiekaaW.PrintLast Go.Proofs.YtgnaaaliadiekaaW.PrintMore
attribute [local go_sem] ycj ych ycs ycr ybw ybv yci ycg   -- for this text's walks alone
attribute [local go_sem] yca ybn ybz ybm
set_option linter.unusedVariables false
set_option linter.unusedSimpArgs false
mutual
def yck.j0 : Nat → List Int → Int → Bool → Option (List Int × Bool)
 | 0, _, _, _ => none
 | k + 1, x0, x1, x20 => if x20 = true then (some (([] : List Int), false)) else (if 0 ≤ x1 then (if (x1 : Int).toNat ≤ 281474976710656 then (yck.l0 k x0 x1 (List.replicate (x1 : Int).toNat 0) x1 0) else (none)) else (none))
def yck.l0 : Nat → List Int → Int → List Int → Int → Int → Option (List Int × Bool)
 | 0, _, _, _, _, _ => none
 | k + 1, x0, x1, x6, x23, x24 => if x24 < x23 then ((yef.f x0 (wrap64 (Int.tdiv x24 8))).bind fun t1005 => (if 0 ≤ (wrap64 (8 * (Int.tmod x24 8))) then (if 0 ≤ (wrap64 ((wrap64 (x1 - 1)) - x24)) then (if (wrap64 ((wrap64 (x1 - 1)) - x24)) < (x6.length : Int) then (yck.l0 k x0 x1 (x6.set ((wrap64 ((wrap64 (x1 - 1)) - x24)) : Int).toNat ((shr .u64 t1005 (wrap64 (8 * (Int.tmod x24 8)))) % 256)) x23 (wrap64 (x24 + 1))) else (none)) else (none)) else (none))) else (some (x6, true))
end
def yck.f (k : Nat) (l0 : List Int) (a1 : Int) : Option (List Int × Bool) := if a1 < 0 then (yck.j0 k l0 a1 true) else (if a1 > 512 then (yck.j0 k l0 a1 true) else ((ydm.f k l0).bind fun t1001 => (yck.j0 k l0 a1 (decide (t1001 > (wrap64 (8 * a1)))))))
set_option maxHeartbeats 8000000 in
set_option maxRecDepth 100000 in
theorem yck.calls (k : Nat) (A0 : Option Addr) (c0 : Nat) (l0 : List Int) (a1 : Int) (r1 : List Int) (r2 : Bool) (w : World) (hr0 : Kd.C (Kd.int .u64) w A0 l0.length l0) (hc0 : l0.length ≤ c0) (h : yck.f k l0 a1 = some (r1, r2)) :
 Calls Try.prog 37 #[.slice A0 l0.length c0, .int .i64 a1] w fun e w' => ∃ v0_ : Value, e = .returned (.tuple #[v0_, .bool r2]) ∧ Kd.R (Kd.int .u8) 5 w' w.heap.size (fun _ => True) v0_ r1 ∧ Below w.heap.size w w' := by
 have HR0 := Aside0.mk hr0
 have HC0 := Aside0.mk hc0
 clear hr0 hc0
 have HB := Aside0.mk (Below.refl w.heap.size w)
 have H : (if a1 < 0 then (yck.j0 k l0 a1 true) else (if a1 > 512 then (yck.j0 k l0 a1 true) else ((ydm.f k l0).bind fun t1001 => (yck.j0 k l0 a1 (decide (t1001 > (wrap64 (8 * a1)))))))) = some (r1, r2) := h
 clear h
 have HC3 := Aside0.mk H
 clear H
 go_enter Try.func37, Try.ntmps37
 go_upto_region 1 with (fail)
 go_cut [20] (fun v20 wc => ∃ (kq : Nat) (x20_2 : Bool), v20 = .bool x20_2 ∧ Aside0 (yck.j0 kq l0 a1 x20_2 = some (r1, r2)) ∧ Aside0 (kq ≤ k) ∧ Aside0 (Below w.heap.size w wc))
 case first =>
  have H := HC3.out
  clear HC3
  by_cases c4 : a1 < 0
  · rw [if_pos c4] at H
    have c4b0 : decide (a1 < 0) = true := decide_eq_true c4
    clear c4
    (first | rw [c4b0] | (simp only [ydk, yfz]; rw [c4b0]) | skip)
    have H' := Aside0.mk H
    clear H
    go_wp2
    go_meet
    case rel => exact ⟨_, (true), Z27_, H', ⟨by first | omega | exact Nat.le_refl _⟩, ⟨by repeat (first | (with_reducible first | exact HB.out | apply yad | apply yab | apply yac) | exact HB.out)⟩⟩
  · rw [if_neg c4] at H
    have c4b0 : decide (a1 < 0) = false := decide_eq_false c4
    clear c4
    (first | rw [c4b0] | (simp only [ydk, yfz]; rw [c4b0]) | skip)
    by_cases c5 : a1 > 512
    · rw [if_pos c5] at H
      have c5b0 : decide (512 < a1) = true := decide_eq_true c5
      clear c5
      have H' := Aside0.mk H
      clear H
      go_wp2
      go_meet
      case rel => exact ⟨_, (true), Z27_, H', ⟨by first | omega | exact Nat.le_refl _⟩, ⟨by repeat (first | (with_reducible first | exact HB.out | apply yad | apply yab | apply yac) | exact HB.out)⟩⟩
    · rw [if_neg c5] at H
      have c5b0 : decide (512 < a1) = false := decide_eq_false c5
      clear c5
      replace H := Option.bind_eq_some_iff.mp H
      obtain ⟨t1001, A60, H⟩ := H
      replace H : (yck.j0 k l0 a1 (decide (t1001 > (wrap64 (8 * a1))))) = some (r1, r2) := H
      have A6 := Aside0.mk A60
      clear A60
      have H' := Aside0.mk H
      clear H
      go_wp2_with (first | (go_at_call 41; (with_reducible refine (ydm.calls k _ _ l0 t1001 _ ?side1 ?side2 A6.out).mono ?_); (case side1 => repeat (first | exact (Kd.ybg HR0.out HB.out) | (with_reducible refine Kd.yau ?_ _) | (with_reducible refine Kd.yaw ?_ _) | (with_reducible refine Kd.ybe ?_))); (case side2 => exact HC0.out); rintro e w' ⟨rfl, ⟨nd, rfl⟩⟩))
      go_meet
      case rel => exact ⟨_, (decide (t1001 > (wrap64 (8 * a1)))), Z27_, H', ⟨by first | omega | exact Nat.le_refl _⟩, ⟨by repeat (first | (with_reducible first | exact HB.out | apply yad | apply yab | apply yac) | exact HB.out)⟩⟩
 case rest =>
  clear HC3
  try clear p2
  try clear c3
  try clear c4
  try clear c4b0
  try clear c5
  try clear c5b0
  try clear p6
  obtain ⟨kq, x20_2, rfl, HA, HJ2, HB⟩ := hcut
  cases kq with
  | zero => exact absurd HA.out (by simp [yck.j0])
  | succ kj2 =>
   have H := HA.out
   clear HA
   simp only [yck.j0] at H
   by_cases c7 : x20_2 = true
   · subst c7
     have H1 : (some (([] : List Int), false)) = some (r1, r2) := by rw [if_pos rfl] at H; exact H
     clear H
     have H := H1
     clear H1
     simp only [Option.some.injEq, Prod.mk.injEq] at H
     obtain ⟨rfl, rfl⟩ := H
     go_wp2
     go_ret2
     exact ⟨_, by first | rfl | (simp [yap, yao] <;> rfl) | (simp [*, yap, yao] <;> rfl), by first | exact Kd.yfv _ _ _ _ _ | exact Kd.yid _ _ _ _ _ | exact Kd.yia _ _ _ _ _ | exact Kd.yic _ _ _ _ _ | exact Kd.yib _ _ _ _ _, by repeat (first | (with_reducible first | exact HB.out | apply yad | apply yab | apply yac) | exact HB.out)⟩
   · replace c7 := Bool.eq_false_iff.mpr c7
     subst c7
     have H1 : (if 0 ≤ a1 then (if (a1 : Int).toNat ≤ 281474976710656 then (yck.l0 kj2 l0 a1 (List.replicate (a1 : Int).toNat 0) a1 0) else (none)) else (none)) = some (r1, r2) := by rw [if_neg (show ¬ (false = true) by decide)] at H; exact H
     clear H
     have H := H1
     clear H1
     by_cases c8 : 0 ≤ a1
     · rw [if_pos c8] at H
       have c8b0 := eq_true c8
       have c8b1 : decide (0 ≤ a1) = true := decide_eq_true c8
       clear c8
       by_cases c9 : (a1 : Int).toNat ≤ 281474976710656
       · rw [if_pos c9] at H
         have c9b0 := eq_true c9
         have c9b1 : decide ((a1 : Int).toNat ≤ 281474976710656) = true := decide_eq_true c9
         clear c9
         obtain ⟨y1002, hy1002⟩ : ∃ y_ : List Int, y_ = (List.replicate (a1 : Int).toNat 0) := ⟨_, rfl⟩
         replace H : (yck.l0 kj2 l0 a1 y1002 a1 0) = some (r1, r2) := by first | (rw [hy1002]; with_reducible exact H) | (have H2_ := (Option.bind_some _ _).symm.trans H; rw [hy1002]; with_reducible exact H2_) | (have H2_ := (Option.bind_some _ _).symm.trans H; with_reducible exact H2_) | with_reducible exact H | (rw [hy1002]; exact H) | exact H
         have Ny1002 := Aside0.mk hy1002
         clear hy1002
         have H' := Aside0.mk H
         clear H
         go_wp2_with (first | ((with_reducible refine ybu (N := 22) rfl ?_); refine Kd.yhb (Kd.int .u8) _ 5 rfl (N := 22) rfl 38 _ _ rfl a1 rfl rfl Try.underlying38 (.int .u8 0) 1 info5 rfl (by decide) (by omega) 0 (ok := fun _ => True) (okp := fun _ => True) rfl (fun _ hk => hk) trivial (of_decide_eq_true Z26_) (Nat.le_trans (Nat.mul_le_mul_right _ (of_decide_eq_true Z26_ : a1.toNat ≤ 281474976710656)) (by omega)) (Below.refl _ _) (Nat.le_refl _) ?_; intro v1003 w10 ho11 hb hg_ hnew_; clear hg_ hnew_; (first | rw [← Ny1002.out] at ho11 | (simp only [Int.reduceToNat] at ho11; rw [← Ny1002.out] at ho11)); have n0_ := Aside0.mk (Kd.ybl ho11 (yaj Z7_)); have n1_ := Aside0.mk (yai Z7_ hb); clear HB; have HO1004 := n0_; have HB := n1_; clear n0_ n1_; clear hb ho11))
         go_loopg [24] kj2 (fun kq v24 w' => ∃ (x6_2 : List Int) (x24_2 : Int), v24 = .int .i64 x24_2 ∧ Aside0 (yck.l0 kq l0 a1 x6_2 a1 x24_2 = some (r1, r2)) ∧ Aside0 (kq ≤ kj2) ∧ Aside0 (Kd.R (Kd.int .u8) 5 w' w.heap.size (fun _ => True) v1003 x6_2) ∧ Aside0 (Below w.heap.size w w'))
         case atStart => exact ⟨(y1002), (0), Z27_, H', ⟨Nat.le_refl _⟩, ⟨by (with_reducible repeat (first | apply Kd.yba | apply Kd.yaz | apply Kd.ybi)); exact HO1004.out⟩, ⟨by repeat (first | (with_reducible first | exact HB.out | apply yad | apply yab | apply yac) | exact HB.out)⟩⟩
         case round =>
          clear H'
          try clear p2
          try clear c3
          try clear c4
          try clear c4b0
          try clear c5
          try clear c5b0
          try clear p6
          try clear c7
          try clear c8
          try clear c8b0
          try clear c8b1
          try clear c9
          try clear c9b0
          try clear c9b1
          try clear p2
          try clear p6
          obtain ⟨x6_2, x24_2, rfl, HA, HK2, HO_6, HB⟩ := hrel
          cases gk with
          | zero => exact absurd HA.out (by simp [yck.l0])
          | succ k2 =>
           have H := HA.out
           clear HA
           simp only [yck.l0] at H
           by_cases c12 : x24_2 < a1
           · rw [if_pos c12] at H
             have c12b0 : decide (x24_2 < a1) = true := decide_eq_true c12
             clear c12
             replace H := Option.bind_eq_some_iff.mp H
             obtain ⟨t1005, A130, H⟩ := H
             replace H : (if 0 ≤ (wrap64 (8 * (Int.tmod x24_2 8))) then (if 0 ≤ (wrap64 ((wrap64 (a1 - 1)) - x24_2)) then (if (wrap64 ((wrap64 (a1 - 1)) - x24_2)) < (x6_2.length : Int) then (yck.l0 k2 l0 a1 (x6_2.set ((wrap64 ((wrap64 (a1 - 1)) - x24_2)) : Int).toNat ((shr .u64 t1005 (wrap64 (8 * (Int.tmod x24_2 8)))) % 256)) a1 (wrap64 (x24_2 + 1))) else (none)) else (none)) else (none)) = some (r1, r2) := H
             have A13 := Aside0.mk A130
             clear A130
             obtain ⟨ji14, hji14⟩ : ∃ j_ : Int, (wrap64 (8 * (Int.tmod x24_2 8))) = j_ := ⟨_, rfl⟩
             replace H : (if 0 ≤ (ji14) then (if 0 ≤ (wrap64 ((wrap64 (a1 - 1)) - x24_2)) then (if (wrap64 ((wrap64 (a1 - 1)) - x24_2)) < (x6_2.length : Int) then (yck.l0 k2 l0 a1 (x6_2.set ((wrap64 ((wrap64 (a1 - 1)) - x24_2)) : Int).toNat ((shr .u64 t1005 (ji14)) % 256)) a1 (wrap64 (x24_2 + 1))) else (none)) else (none)) else (none)) = some (r1, r2) := by first | (rw [hji14] at H; exact H) | (simp only [hji14] at H ⊢; exact H)
             (try rw [hji14] at A13)
             have hji14w : (IntKind.i64.wrap (8 * (Int.tmod x24_2 8))) = ji14 := (ydk _).trans hji14
             by_cases c15 : 0 ≤ (ji14)
             · rw [if_pos c15] at H
               have c15b0 := eq_true c15
               have c15b1 : decide (0 ≤ (ji14)) = true := decide_eq_true c15
               clear c15
               obtain ⟨ji16, hji16⟩ : ∃ j_ : Int, (shr .u64 t1005 (ji14)) = j_ := ⟨_, rfl⟩
               replace H : (if 0 ≤ (wrap64 ((wrap64 (a1 - 1)) - x24_2)) then (if (wrap64 ((wrap64 (a1 - 1)) - x24_2)) < (x6_2.length : Int) then (yck.l0 k2 l0 a1 (x6_2.set ((wrap64 ((wrap64 (a1 - 1)) - x24_2)) : Int).toNat ((ji16) % 256)) a1 (wrap64 (x24_2 + 1))) else (none)) else (none)) = some (r1, r2) := by first | (rw [hji16] at H; exact H) | (simp only [hji16] at H ⊢; exact H)
               (try rw [hji16] at A13)
               have hji16_ : (t1005 / 2 ^ min (ji14).toNat 64) = ji16 := hji16
               have hji16z : (ji14) ≤ 64 → (t1005 / 2 ^ (ji14).toNat) = ji16 := yfn hji16
               obtain ⟨ji17, hji17⟩ : ∃ j_ : Int, (wrap64 ((wrap64 (a1 - 1)) - x24_2)) = j_ := ⟨_, rfl⟩
               replace H : (if 0 ≤ (ji17) then (if (ji17) < (x6_2.length : Int) then (yck.l0 k2 l0 a1 (x6_2.set ((ji17) : Int).toNat ((ji16) % 256)) a1 (wrap64 (x24_2 + 1))) else (none)) else (none)) = some (r1, r2) := by first | (rw [hji17] at H; exact H) | (simp only [hji17] at H ⊢; exact H)
               (try rw [hji17] at A13)
               have hji17w : (IntKind.i64.wrap ((wrap64 (a1 - 1)) - x24_2)) = ji17 := (ydk _).trans hji17
               by_cases c18 : 0 ≤ (ji17)
               · rw [if_pos c18] at H
                 have c18b0 : decide (0 ≤ (ji17)) = true := decide_eq_true c18
                 clear c18
                 by_cases c19 : (ji17) < (x6_2.length : Int)
                 · rw [if_pos c19] at H
                   have c19b0 : decide ((ji17) < (x6_2.length : Int)) = true := decide_eq_true c19
                   clear c19
                   obtain ⟨y1006, hy1006⟩ : ∃ y_ : List Int, y_ = (x6_2.set ((ji17) : Int).toNat ((ji16) % 256)) := ⟨_, rfl⟩
                   replace H : (yck.l0 k2 l0 a1 y1006 a1 (wrap64 (x24_2 + 1))) = some (r1, r2) := by first | (rw [hy1006]; with_reducible exact H) | (have H2_ := (Option.bind_some _ _).symm.trans H; rw [hy1006]; with_reducible exact H2_) | (have H2_ := (Option.bind_some _ _).symm.trans H; with_reducible exact H2_) | with_reducible exact H | (rw [hy1006]; exact H) | exact H
                   have Ny1006 := Aside0.mk hy1006
                   clear hy1006
                   have H' := Aside0.mk H
                   clear H
                   go_wp2_with (first | ((with_reducible refine yar (f := 70) rfl ?_); refine yce (some 35) rfl rfl Try.func70 (by kernel_rfl) rfl #[.slice A0 l0.length c0, .int .i64 (wrap64 (Int.tdiv x24_2 8))] rfl Z6_ ?_; (with_reducible refine (yef.calls _ _ l0 (wrap64 (Int.tdiv x24_2 8)) t1005 _ ?side1 ?side2 A13.out).mono ?_); (case side1 => repeat (first | exact (Kd.ybg HR0.out HB.out) | (with_reducible refine Kd.yau ?_ _) | (with_reducible refine Kd.yaw ?_ _) | (with_reducible refine Kd.ybe ?_))); (case side2 => exact HC0.out); rintro e w' ⟨rfl, ⟨nd, rfl⟩⟩; refine ⟨_, rfl, ?_⟩; (try ((first | generalize hq_ : World.drewN wr nq = wr | (rw [ydi wr]; generalize hq_ : World.drewN wr _ = wr)); have n0_ : Aside0 (Kd.R (Kd.int .u8) 5 wr w.heap.size (fun _ => True) v1003 x6_2) := ⟨by rw [← hq_]; exact Z20_⟩; have n1_ : Aside0 (Below w.heap.size w wr) := ⟨by rw [← hq_]; exact Z7_⟩; clear HO_6 HB hq_; have HO_6 := n0_; have HB := n1_; clear n0_ n1_)); have p20 : 0 ≤ ((ji17) : Int) := of_decide_eq_true Z26_; have q20 : ((ji17) : Int) < ((x6_2.length : Int) : Int) := of_decide_eq_true Z26_; obtain ⟨go20, co20, eo20, gb20, gl20, cl20, HG20⟩ := Kd.yey HO_6.out (by omega); (first | cases eo20 | (injection eo20 with ea_ en_ ec_; (first | subst ea_ | (injection ea_ with ea_; subst ea_)); subst ec_; clear en_)); have GB20 := Aside0.mk gb20; have GG20 := Aside0.mk HG20; clear gb20 gl20 HG20; obtain ⟨hx20_0, hf20_0⟩ := Kd.ydb 0 HO_6.out ((ji17) : Int) p20 q20; replace p20 := eq_true p20; replace q20 := eq_true q20; obtain ⟨hy21_, hz21_⟩ := Kd.ydb 0 HO_6.out ((ji17) : Int) (of_decide_eq_true Z26_) (of_decide_eq_true Z26_); have HP21 := Kd.yej HO_6.out ((ji17) : Int) ((ji16) % 256)) | ((with_reducible refine ycm (t := 5) (p := 41) rfl ?_); refine ycw (t := 5) (p := 41) (v := ?vo_w22) (w1 := (wr.setCell ⟨go20, ((ji17) : Int).toNat, none⟩ (.int .u8 ((ji16) % 256)))) ?hg ?ho ?hn ?hr ?_; (case ho => rfl); (case hg => rfl); (case hn => rfl); (case hr => first | (go_simp; done) | (go_simp; rfl)); intro w22 hw; have hg : wr.grownBy w22 (some go20) := (by rw [hw]; exact HP21.2); have hp_ : Kd.R (Kd.int .u8) 5 w22 w.heap.size (fun _ => True) (.slice (some ⟨go20, 0, none⟩) x6_2.length co20) y1006 := (by rw [hw, Ny1006.out]; exact HP21.1); clear HP21; have n0_ := Aside0.mk (hp_); have n1_ := Aside0.mk ((by rw [hw]; exact ybx (HB.out) GB20.out : Below w.heap.size w w22)); clear HO_6; clear HB; have HO_6 := n0_; have HB := n1_; clear n0_ n1_; clear hg hw hp_))
                   go_roundg k2
                   case measure => have := HJ2.out; have := HK2.out; omega
                   case rel => exact ⟨(y1006), (wrap64 (x24_2 + 1)), Z27_, H', ⟨by have := HJ2.out; have := HK2.out; omega⟩, ⟨by (with_reducible repeat (first | apply Kd.yba | apply Kd.yaz | apply Kd.ybi)); exact HO_6.out⟩, ⟨by repeat (first | (with_reducible first | exact HB.out | apply yad | apply yab | apply yac) | exact HB.out)⟩⟩
                 · rw [if_neg c19] at H
                   exact absurd H (by simp)
               · rw [if_neg c18] at H
                 exact absurd H (by simp)
             · rw [if_neg c15] at H
               exact absurd H (by simp)
           · rw [if_neg c12] at H
             have c12b0 : decide (x24_2 < a1) = false := decide_eq_false c12
             clear c12
             simp only [Option.some.injEq, Prod.mk.injEq] at H
             obtain ⟨rfl, rfl⟩ := H
             go_wp2
             go_ret2
             exact ⟨_, by first | rfl | (simp [yap, yao] <;> rfl) | (simp [*, yap, yao] <;> rfl), by (with_reducible repeat (first | apply Kd.yba | apply Kd.yaz | apply Kd.ybi)); exact HO_6.out, by repeat (first | (with_reducible first | exact HB.out | apply yad | apply yab | apply yac) | exact HB.out)⟩
       · rw [if_neg c9] at H
         exact absurd H (by simp)
     · rw [if_neg c8] at H
       exact absurd H (by simp)
end Go.Proofs.Ytgnaaaliadiekaa.B
end
section
namespace Go.Proofs.Ytgnaaaliadiekaa.B
open Go.RowKit Go.Proofs.YtgnaaaliadiekaaW.PrintWords Go.Proofs.YtgnaaaliadiekaaW.PrintLast Go.Proofs.YtgnaaaliadiekaaW.PrintMore
attribute [local go_sem] ycj ych ycs ycr ybw ybv yci ycg   -- for this text's walks alone
attribute [local go_sem] yca ybn ybz ybm
set_option linter.unusedVariables false
set_option linter.unusedSimpArgs false
def bytes_Equal.f (l0 : List Int) (l1 : List Int) : Option (Bool) := some ((strOfNums l0).toList == (strOfNums l1).toList)
set_option maxHeartbeats 8000000 in
set_option maxRecDepth 100000 in
theorem bytes_Equal.calls (A0 : Option Addr) (c0 : Nat) (l0 : List Int) (A1 : Option Addr) (c1 : Nat) (l1 : List Int) (r : Bool) (w : World) (hr0 : Kd.C (Kd.int .u8) w A0 l0.length l0) (hc0 : l0.length ≤ c0) (hr1 : Kd.C (Kd.int .u8) w A1 l1.length l1) (hc1 : l1.length ≤ c1) (h : bytes_Equal.f l0 l1 = some r) :
 Calls Try.prog 65 #[.slice A0 l0.length c0, .slice A1 l1.length c1] w fun e w' => e = .returned (.bool r) ∧ ybj w w' := by
 have HR0 := Aside0.mk hr0
 have HC0 := Aside0.mk hc0
 clear hr0 hc0
 have HR1 := Aside0.mk hr1
 have HC1 := Aside0.mk hc1
 clear hr1 hc1
 have H : (some ((strOfNums l0).toList == (strOfNums l1).toList)) = some r := h
 clear h
 obtain rfl := Option.some.inj H
 have hcv3 := Kd.C_string (P := Try.prog) (A := A0) (c := c0) Try.underlying38 Try.underlying5 Try.underlying9 HR0.out
 have hcv4 := Kd.C_string (P := Try.prog) (A := A1) (c := c1) Try.underlying38 Try.underlying5 Try.underlying9 HR1.out
 go_enter Try.func65, Try.ntmps65
 go_wp2
 go_ret
 exact ⟨by first | rfl | (simp; done) | (simp [*]; done), by repeat (first | exact ybj.refl _ | apply ybj.step)⟩
end Go.Proofs.Ytgnaaaliadiekaa.B
end
section
namespace Go.Proofs.Ytgnaaaliadiekaa.B
open Go.RowKit Go.Proofs.YtgnaaaliadiekaaW.PrintWords Go.Proofs.YtgnaaaliadiekaaW.PrintLast Go.Proofs.YtgnaaaliadiekaaW.PrintMore
attribute [local go_sem] ycj ych ycs ycr ybw ybv yci ycg   -- for this text's walks alone
attribute [local go_sem] yca ybn ybz ybm
set_option linter.unusedVariables false
set_option linter.unusedSimpArgs false
def bits_LeadingZeros64.f (a0 : Int) : Option (Int) := (bits_Len64.f a0).bind fun t1001 => (some (wrap64 (64 - t1001)))
set_option maxHeartbeats 8000000 in
set_option maxRecDepth 100000 in
theorem bits_LeadingZeros64.calls (a0 : Int) (r : Int) (w : World) (h : bits_LeadingZeros64.f a0 = some r) :
 Calls Try.prog 72 #[.int .u64 a0] w fun e w' => e = .returned (.int .i64 r) ∧ ybj w w' := by
 have H : ((bits_Len64.f a0).bind fun t1001 => (some (wrap64 (64 - t1001)))) = some r := h
 clear h
 replace H := Option.bind_eq_some_iff.mp H
 obtain ⟨t1001, A20, H⟩ := H
 replace H : (some (wrap64 (64 - t1001))) = some r := H
 have A2 := Aside0.mk A20
 clear A20
 obtain rfl := Option.some.inj H
 go_enter Try.func72, Try.ntmps72
 go_wp2_with (first | ((with_reducible refine yar (f := 77) rfl ?_); refine yce (some 4) rfl rfl Try.func77 (by kernel_rfl) rfl #[.int .u64 a0] rfl Z6_ ?_; (with_reducible refine (bits_Len64.calls a0 t1001 _ A2.out).mono ?_); rintro e w' ⟨rfl, ⟨nd, rfl⟩⟩; refine ⟨_, rfl, ?_⟩))
 go_ret
 exact ⟨by first | rfl | (simp; done) | (simp [*]; done), by repeat (first | exact ybj.refl _ | apply ybj.step)⟩
end Go.Proofs.Ytgnaaaliadiekaa.B
end
