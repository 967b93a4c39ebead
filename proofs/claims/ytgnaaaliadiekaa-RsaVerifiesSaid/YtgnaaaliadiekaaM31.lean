/- A part of the proof (merged by pack.py, a program of this session: what the row's proof names). -/
import Derived.Test.YtgnaaaliadiekaaM4
import Derived.Test.YtgnaaaliadiekaaM8
import Derived.Test.YtgnaaaliadiekaaM28
import Derived.Test.YtgnaaaliadiekaaM0
section
namespace Go.Proofs.Ytgnaaaliadiekaa.B
open Go.RowKit Go.Proofs.YtgnaaaliadiekaaW.PrintWords Go.Proofs.YtgnaaaliadiekaaW.PrintLast Go.Proofs.YtgnaaaliadiekaaW.PrintMore
attribute [local go_sem] ycj ych ycs ycr ybw ybv yci ycg   -- for this text's walks alone
attribute [local go_sem] yca ybn ybz ybm
set_option linter.unusedVariables false
set_option linter.unusedSimpArgs false
mutual
def ybp.j0 : Nat → List Int → List Int → Int → Int → Int → Option (Int)
 | 0, _, _, _, _, _ => none
 | k + 1, x0, x1, x5, x6, x7 => ybp.l0 k x0 x1 x5 x6 x7
def ybp.l0 : Nat → List Int → List Int → Int → Int → Int → Option (Int)
 | 0, _, _, _, _, _ => none
 | k + 1, x0, x1, x5, x6, x7 => if 0 ≤ (wrap64 (x5 - 2)) then (if (wrap64 (x5 - 2)) < (x1.length : Int) then ((bits_Mul64.f x6 (rd x1 (wrap64 (x5 - 2)))).bind fun bt1012 => (if bt1012.1 < x7 then (ybp.j2 k x0 x1 x5 x6 x7 true) else (if bt1012.1 = x7 then (if (wrap64 (x5 - 2)) < (x0.length : Int) then (ybp.j2 k x0 x1 x5 x6 x7 (decide (bt1012.2 ≤ (rd x0 (wrap64 (x5 - 2)))))) else (none)) else (ybp.j2 k x0 x1 x5 x6 x7 false)))) else (none)) else (none)
def ybp.j2 : Nat → List Int → List Int → Int → Int → Int → Bool → Option (Int)
 | 0, _, _, _, _, _, _ => none
 | k + 1, x0, x1, x5, x6, x7, x85 => if x85 = true then (some x6) else (if 0 ≤ (wrap64 (x5 - 1)) then (if (wrap64 (x5 - 1)) < (x1.length : Int) then (if (IntKind.u64.wrap (x7 + (rd x1 (wrap64 (x5 - 1))))) < (rd x1 (wrap64 (x5 - 1))) then (some (IntKind.u64.wrap (x6 - 1))) else (ybp.l0 k x0 x1 x5 (IntKind.u64.wrap (x6 - 1)) (IntKind.u64.wrap (x7 + (rd x1 (wrap64 (x5 - 1))))))) else (none)) else (none))
end
def ybp.f (k : Nat) (l0 : List Int) (l1 : List Int) : Option (Int) := if 0 ≤ (l1.length : Int) then (if (l1.length : Int) < (l0.length : Int) then (if 0 ≤ (wrap64 ((l1.length : Int) - 1)) then (if (wrap64 ((l1.length : Int) - 1)) < (l1.length : Int) then (if (rd l0 (l1.length : Int)) < (rd l1 (wrap64 ((l1.length : Int) - 1))) then (if (wrap64 ((l1.length : Int) - 1)) < (l0.length : Int) then ((yay.f k (rd l0 (l1.length : Int)) (rd l0 (wrap64 ((l1.length : Int) - 1))) (rd l1 (wrap64 ((l1.length : Int) - 1)))).bind fun bt1006 => (ybp.j0 k l0 l1 (l1.length : Int) bt1006.1 bt1006.2)) else (none)) else (if (wrap64 ((l1.length : Int) - 1)) < (l0.length : Int) then (if (IntKind.u64.wrap ((rd l0 (wrap64 ((l1.length : Int) - 1))) + (rd l1 (wrap64 ((l1.length : Int) - 1))))) < (rd l1 (wrap64 ((l1.length : Int) - 1))) then (some 18446744073709551615) else (ybp.j0 k l0 l1 (l1.length : Int) 18446744073709551615 (IntKind.u64.wrap ((rd l0 (wrap64 ((l1.length : Int) - 1))) + (rd l1 (wrap64 ((l1.length : Int) - 1))))))) else (none))) else (none)) else (none)) else (none)) else (none)
set_option maxHeartbeats 8000000 in
set_option maxRecDepth 100000 in
theorem ybp.calls (k : Nat) (A0 : Option Addr) (c0 : Nat) (l0 : List Int) (A1 : Option Addr) (c1 : Nat) (l1 : List Int) (r : Int) (w : World) (hr0 : Kd.C (Kd.int .u64) w A0 l0.length l0) (hc0 : l0.length ≤ c0) (hr1 : Kd.C (Kd.int .u64) w A1 l1.length l1) (hc1 : l1.length ≤ c1) (h : ybp.f k l0 l1 = some r) :
 Calls Try.prog 73 #[.slice A0 l0.length c0, .slice A1 l1.length c1] w fun e w' => e = .returned (.int .u64 r) ∧ ybj w w' := by
 have HR0 := Aside0.mk hr0
 have HC0 := Aside0.mk hc0
 clear hr0 hc0
 have HR1 := Aside0.mk hr1
 have HC1 := Aside0.mk hc1
 clear hr1 hc1
 have H : (if 0 ≤ (l1.length : Int) then (if (l1.length : Int) < (l0.length : Int) then (if 0 ≤ (wrap64 ((l1.length : Int) - 1)) then (if (wrap64 ((l1.length : Int) - 1)) < (l1.length : Int) then (if (rd l0 (l1.length : Int)) < (rd l1 (wrap64 ((l1.length : Int) - 1))) then (if (wrap64 ((l1.length : Int) - 1)) < (l0.length : Int) then ((yay.f k (rd l0 (l1.length : Int)) (rd l0 (wrap64 ((l1.length : Int) - 1))) (rd l1 (wrap64 ((l1.length : Int) - 1)))).bind fun bt1006 => (ybp.j0 k l0 l1 (l1.length : Int) bt1006.1 bt1006.2)) else (none)) else (if (wrap64 ((l1.length : Int) - 1)) < (l0.length : Int) then (if (IntKind.u64.wrap ((rd l0 (wrap64 ((l1.length : Int) - 1))) + (rd l1 (wrap64 ((l1.length : Int) - 1))))) < (rd l1 (wrap64 ((l1.length : Int) - 1))) then (some 18446744073709551615) else (ybp.j0 k l0 l1 (l1.length : Int) 18446744073709551615 (IntKind.u64.wrap ((rd l0 (wrap64 ((l1.length : Int) - 1))) + (rd l1 (wrap64 ((l1.length : Int) - 1))))))) else (none))) else (none)) else (none)) else (none)) else (none)) = some r := h
 clear h
 by_cases c3 : 0 ≤ (l1.length : Int)
 · rw [if_pos c3] at H
   have c3b0 : decide (0 ≤ (l1.length : Int)) = true := decide_eq_true c3
   have c3b1 : decide (0 ≤ l1.length) = true := decide_eq_true (by omega)
   clear c3
   by_cases c4 : (l1.length : Int) < (l0.length : Int)
   · rw [if_pos c4] at H
     have c4b0 : decide ((l1.length : Int) < (l0.length : Int)) = true := decide_eq_true c4
     have c4b1 : decide (l1.length < l0.length) = true := decide_eq_true (Int.ofNat_lt.mp c4)
     clear c4
     obtain ⟨ji5, hji5⟩ : ∃ j_ : Int, (wrap64 ((l1.length : Int) - 1)) = j_ := ⟨_, rfl⟩
     replace H : (if 0 ≤ (ji5) then (if (ji5) < (l1.length : Int) then (if (rd l0 (l1.length : Int)) < (rd l1 (ji5)) then (if (ji5) < (l0.length : Int) then ((yay.f k (rd l0 (l1.length : Int)) (rd l0 (ji5)) (rd l1 (ji5))).bind fun bt1006 => (ybp.j0 k l0 l1 (l1.length : Int) bt1006.1 bt1006.2)) else (none)) else (if (ji5) < (l0.length : Int) then (if (IntKind.u64.wrap ((rd l0 (ji5)) + (rd l1 (ji5)))) < (rd l1 (ji5)) then (some 18446744073709551615) else (ybp.j0 k l0 l1 (l1.length : Int) 18446744073709551615 (IntKind.u64.wrap ((rd l0 (ji5)) + (rd l1 (ji5)))))) else (none))) else (none)) else (none)) = some r := by first | (rw [hji5] at H; exact H) | (simp only [hji5] at H ⊢; exact H)
     have hji5w : (IntKind.i64.wrap ((l1.length : Int) - 1)) = ji5 := (ydk _).trans hji5
     by_cases c6 : 0 ≤ (ji5)
     · rw [if_pos c6] at H
       have c6b0 : decide (0 ≤ (ji5)) = true := decide_eq_true c6
       clear c6
       by_cases c7 : (ji5) < (l1.length : Int)
       · rw [if_pos c7] at H
         have c7b0 : decide ((ji5) < (l1.length : Int)) = true := decide_eq_true c7
         clear c7
         have HC8 := Aside0.mk H
         clear H
         have p1001 : 0 ≤ ((l1.length : Int) : Int) := of_decide_eq_true Z26_
         have q1001 : (l1.length : Int) < (l0.length : Int) := of_decide_eq_true Z26_
         obtain ⟨ad1001, e1001, hx1001_0⟩ := Kd.ybs HR0.out (l1.length : Int) p1001 q1001
         cases e1001
         (try simp only [Go.IntWalk.toNatUp] at hx1001_0)
         replace p1001 := eq_true p1001
         replace q1001 := eq_true q1001
         have p1002 : 0 ≤ ((ji5) : Int) := of_decide_eq_true Z26_
         have q1002 : (ji5) < (l1.length : Int) := of_decide_eq_true Z26_
         obtain ⟨ad1002, e1002, hx1002_0⟩ := Kd.ybs HR1.out (ji5) p1002 q1002
         cases e1002
         replace p1002 := eq_true p1002
         replace q1002 := eq_true q1002
         go_enter Try.func73, Try.ntmps73
         go_upto_if 21 with (fail)
         repeat (go_quiet (fail); go_upto_if 21 with (fail))
         go_cut [6, 7] (fun v6 v7 wc => ∃ (kq : Nat) (x6_7 : Int) (x7_7 : Int), v6 = .int .u64 x6_7 ∧ v7 = .int .u64 x7_7 ∧ Aside0 (ybp.j0 kq l0 l1 (l1.length : Int) x6_7 x7_7 = some r) ∧ Aside0 (kq ≤ k) ∧ ybj w wc)
         case first =>
          have H := HC8.out
          clear HC8
          by_cases c9 : (rd l0 (l1.length : Int)) < (rd l1 (ji5))
          · rw [if_pos c9] at H
            have c9b0 : decide ((rd l0 (l1.length : Int)) < (rd l1 (ji5))) = true := decide_eq_true c9
            clear c9
            (first | rw [c9b0] | (simp only [ydk, yfz]; rw [c9b0]) | skip)
            by_cases c10 : (ji5) < (l0.length : Int)
            · rw [if_pos c10] at H
              have c10b0 : decide ((ji5) < (l0.length : Int)) = true := decide_eq_true c10
              clear c10
              replace H := Option.bind_eq_some_iff.mp H
              obtain ⟨⟨t1006, t1007⟩, A110, H⟩ := H
              replace H : (ybp.j0 k l0 l1 (l1.length : Int) t1006 t1007) = some r := H
              have A11 := Aside0.mk A110
              clear A110
              have H' := Aside0.mk H
              clear H
              have p1003 : 0 ≤ ((l1.length : Int) : Int) := of_decide_eq_true Z26_
              have q1003 : (l1.length : Int) < (l0.length : Int) := of_decide_eq_true Z26_
              obtain ⟨ad1003, e1003, hx1003_0⟩ := Kd.ybs HR0.out (l1.length : Int) p1003 q1003
              obtain rfl : ad1001 = ad1003 := (by injection e1003)
              (try simp only [Go.IntWalk.toNatUp] at hx1003_0)
              replace p1003 := eq_true p1003
              replace q1003 := eq_true q1003
              have p1004 : 0 ≤ ((ji5) : Int) := of_decide_eq_true Z26_
              have q1004 : (ji5) < (l0.length : Int) := of_decide_eq_true Z26_
              obtain ⟨ad1004, e1004, hx1004_0⟩ := Kd.ybs HR0.out (ji5) p1004 q1004
              obtain rfl : ad1001 = ad1004 := (by injection e1004)
              replace p1004 := eq_true p1004
              replace q1004 := eq_true q1004
              have p1005 : 0 ≤ ((ji5) : Int) := of_decide_eq_true Z26_
              have q1005 : (ji5) < (l1.length : Int) := of_decide_eq_true Z26_
              obtain ⟨ad1005, e1005, hx1005_0⟩ := Kd.ybs HR1.out (ji5) p1005 q1005
              obtain rfl : ad1002 = ad1005 := (by injection e1005)
              replace p1005 := eq_true p1005
              replace q1005 := eq_true q1005
              go_wp2_with (first | (go_at_call 71; (with_reducible refine (yay.calls k (rd l0 (l1.length : Int)) (rd l0 (ji5)) (rd l1 (ji5)) t1006 t1007 _ A11.out).mono ?_); rintro e w' ⟨rfl, ⟨nd, rfl⟩⟩; (try first | exact ⟨rfl, _, World.drewN_drewN _ _ _⟩ | exact ⟨rfl, _, Eq.trans (World.drewN_drewN _ _ _) (congrArg (World.drewN _) (Nat.add_assoc _ _ _))⟩)))
              repeat (go_quiet (first | (go_at_call 71; (with_reducible refine (yay.calls k (rd l0 (l1.length : Int)) (rd l0 (ji5)) (rd l1 (ji5)) t1006 t1007 _ A11.out).mono ?_); rintro e w' ⟨rfl, ⟨nd, rfl⟩⟩; (try clear A11); (try first | exact ⟨rfl, _, World.drewN_drewN _ _ _⟩ | exact ⟨rfl, _, Eq.trans (World.drewN_drewN _ _ _) (congrArg (World.drewN _) (Nat.add_assoc _ _ _))⟩))); try go_wp2_with (first | (go_at_call 71; (with_reducible refine (yay.calls k (rd l0 (l1.length : Int)) (rd l0 (ji5)) (rd l1 (ji5)) t1006 t1007 _ A11.out).mono ?_); rintro e w' ⟨rfl, ⟨nd, rfl⟩⟩; (try clear A11); (try first | exact ⟨rfl, _, World.drewN_drewN _ _ _⟩ | exact ⟨rfl, _, Eq.trans (World.drewN_drewN _ _ _) (congrArg (World.drewN _) (Nat.add_assoc _ _ _))⟩))))
              go_meet
              case rel => exact ⟨_, (t1006), (t1007), Z27_, Z27_, H', ⟨by first | omega | exact Nat.le_refl _⟩, by repeat (first | exact ybj.refl _ | apply ybj.step)⟩
            · rw [if_neg c10] at H
              exact absurd H (by simp)
          · rw [if_neg c9] at H
            have c9b0 : decide ((rd l0 (l1.length : Int)) < (rd l1 (ji5))) = false := decide_eq_false c9
            clear c9
            (first | rw [c9b0] | (simp only [ydk, yfz]; rw [c9b0]) | skip)
            by_cases c12 : (ji5) < (l0.length : Int)
            · rw [if_pos c12] at H
              have c12b0 : decide ((ji5) < (l0.length : Int)) = true := decide_eq_true c12
              clear c12
              by_cases c13 : (IntKind.u64.wrap ((rd l0 (ji5)) + (rd l1 (ji5)))) < (rd l1 (ji5))
              · rw [if_pos c13] at H
                have c13b0 : decide ((IntKind.u64.wrap ((rd l0 (ji5)) + (rd l1 (ji5)))) < (rd l1 (ji5))) = true := decide_eq_true c13
                clear c13
                obtain rfl := Option.some.inj H
                have p1008 : 0 ≤ ((ji5) : Int) := of_decide_eq_true Z26_
                have q1008 : (ji5) < (l0.length : Int) := of_decide_eq_true Z26_
                obtain ⟨ad1008, e1008, hx1008_0⟩ := Kd.ybs HR0.out (ji5) p1008 q1008
                obtain rfl : ad1001 = ad1008 := (by injection e1008)
                replace p1008 := eq_true p1008
                replace q1008 := eq_true q1008
                have p1009 : 0 ≤ ((ji5) : Int) := of_decide_eq_true Z26_
                have q1009 : (ji5) < (l1.length : Int) := of_decide_eq_true Z26_
                obtain ⟨ad1009, e1009, hx1009_0⟩ := Kd.ybs HR1.out (ji5) p1009 q1009
                obtain rfl : ad1002 = ad1009 := (by injection e1009)
                replace p1009 := eq_true p1009
                replace q1009 := eq_true q1009
                have p1010 : 0 ≤ ((ji5) : Int) := of_decide_eq_true Z26_
                have q1010 : (ji5) < (l1.length : Int) := of_decide_eq_true Z26_
                obtain ⟨ad1010, e1010, hx1010_0⟩ := Kd.ybs HR1.out (ji5) p1010 q1010
                obtain rfl : ad1002 = ad1010 := (by injection e1010)
                replace p1010 := eq_true p1010
                replace q1010 := eq_true q1010
                go_wp2
                repeat (go_quiet (fail); try go_wp2)
                go_ret
                exact ⟨by first | rfl | (simp; done) | (simp only [← hji5] <;> (first | rfl | simp)) | (simp [*]; done), by repeat (first | exact ybj.refl _ | apply ybj.step)⟩
              · rw [if_neg c13] at H
                have c13b0 : decide ((IntKind.u64.wrap ((rd l0 (ji5)) + (rd l1 (ji5)))) < (rd l1 (ji5))) = false := decide_eq_false c13
                clear c13
                have H' := Aside0.mk H
                clear H
                have p1008 : 0 ≤ ((ji5) : Int) := of_decide_eq_true Z26_
                have q1008 : (ji5) < (l0.length : Int) := of_decide_eq_true Z26_
                obtain ⟨ad1008, e1008, hx1008_0⟩ := Kd.ybs HR0.out (ji5) p1008 q1008
                obtain rfl : ad1001 = ad1008 := (by injection e1008)
                replace p1008 := eq_true p1008
                replace q1008 := eq_true q1008
                have p1009 : 0 ≤ ((ji5) : Int) := of_decide_eq_true Z26_
                have q1009 : (ji5) < (l1.length : Int) := of_decide_eq_true Z26_
                obtain ⟨ad1009, e1009, hx1009_0⟩ := Kd.ybs HR1.out (ji5) p1009 q1009
                obtain rfl : ad1002 = ad1009 := (by injection e1009)
                replace p1009 := eq_true p1009
                replace q1009 := eq_true q1009
                have p1010 : 0 ≤ ((ji5) : Int) := of_decide_eq_true Z26_
                have q1010 : (ji5) < (l1.length : Int) := of_decide_eq_true Z26_
                obtain ⟨ad1010, e1010, hx1010_0⟩ := Kd.ybs HR1.out (ji5) p1010 q1010
                obtain rfl : ad1002 = ad1010 := (by injection e1010)
                replace p1010 := eq_true p1010
                replace q1010 := eq_true q1010
                go_wp2
                repeat (go_quiet (fail); try go_wp2)
                go_meet
                case rel => exact ⟨_, (18446744073709551615), (IntKind.u64.wrap ((rd l0 (ji5)) + (rd l1 (ji5)))), Z27_, (by first | rfl | (simp; done) | (simp only [← hji5] <;> (first | rfl | simp)) | (simp [*]; done)), H', ⟨by first | omega | exact Nat.le_refl _⟩, by repeat (first | exact ybj.refl _ | apply ybj.step)⟩
            · rw [if_neg c12] at H
              exact absurd H (by simp)
         case rest =>
          clear HC8
          try clear c1
          try clear p1
          try clear q1
          try clear hx1
          try clear p2
          try clear c3
          try clear c3b0
          try clear c3b1
          try clear c4
          try clear c4b0
          try clear c4b1
          try clear c6
          try clear c6b0
          try clear p6
          try clear c7
          try clear c7b0
          try clear c9
          try clear c9b0
          try clear c10
          try clear c10b0
          try clear p10
          try clear q10
          try clear hx10
          try clear c12
          try clear c12b0
          try clear c13
          try clear c13b0
          try clear hx1001_0
          try clear hx1002_0
          try clear hx1003_0
          try clear hx1004_0
          try clear hx1005_0
          try clear hx1008_0
          try clear hx1009_0
          try clear hx1010_0
          try clear p1001
          try clear p1002
          try clear p1003
          try clear p1004
          try clear p1005
          try clear p1008
          try clear p1009
          try clear p1010
          try clear q1001
          try clear q1002
          try clear q1003
          try clear q1004
          try clear q1005
          try clear q1008
          try clear q1009
          try clear q1010
          obtain ⟨kq, x6_7, x7_7, rfl, rfl, HA, HJ7, ⟨mc7, rfl⟩⟩ := hcut
          cases kq with
          | zero => exact absurd HA.out (by simp [ybp.j0])
          | succ kj7 =>
           have H := HA.out
           clear HA
           simp only [ybp.j0] at H
           have H' := Aside0.mk H
           clear H
           go_wp2
           repeat (go_quiet (fail); try go_wp2)
           go_loopg [6, 7] kj7 (fun kq v6 v7 w' => ∃ (x6_2 : Int) (x7_2 : Int), v6 = .int .u64 x6_2 ∧ v7 = .int .u64 x7_2 ∧ Aside0 (ybp.l0 kq l0 l1 (l1.length : Int) x6_2 x7_2 = some r) ∧ Aside0 (kq ≤ kj7) ∧ ybj w w')
           case atStart => exact ⟨(x6_7), (x7_7), Z27_, Z27_, H', ⟨Nat.le_refl _⟩, by repeat (first | exact ybj.refl _ | apply ybj.step)⟩
           case round =>
            clear H'
            try clear c1
            try clear p1
            try clear q1
            try clear hx1
            try clear p2
            try clear c3
            try clear c3b0
            try clear c3b1
            try clear c4
            try clear c4b0
            try clear c4b1
            try clear c6
            try clear c6b0
            try clear p6
            try clear c7
            try clear c7b0
            try clear c9
            try clear c9b0
            try clear c10
            try clear c10b0
            try clear p10
            try clear q10
            try clear hx10
            try clear c12
            try clear c12b0
            try clear c13
            try clear c13b0
            try clear hx1001_0
            try clear hx1002_0
            try clear hx1003_0
            try clear hx1004_0
            try clear hx1005_0
            try clear hx1008_0
            try clear hx1009_0
            try clear hx1010_0
            try clear p1
            try clear p10
            try clear p1001
            try clear p1002
            try clear p1003
            try clear p1004
            try clear p1005
            try clear p1008
            try clear p1009
            try clear p1010
            try clear p2
            try clear p6
            try clear q1
            try clear q10
            try clear q1001
            try clear q1002
            try clear q1003
            try clear q1004
            try clear q1005
            try clear q1008
            try clear q1009
            try clear q1010
            obtain ⟨x6_2, x7_2, rfl, rfl, HA, HK2, ⟨m2, rfl⟩⟩ := hrel
            cases gk with
            | zero => exact absurd HA.out (by simp [ybp.l0])
            | succ k2 =>
             have H := HA.out
             clear HA
             simp only [ybp.l0] at H
             obtain ⟨ji14, hji14⟩ : ∃ j_ : Int, (wrap64 ((l1.length : Int) - 2)) = j_ := ⟨_, rfl⟩
             replace H : (if 0 ≤ (ji14) then (if (ji14) < (l1.length : Int) then ((bits_Mul64.f x6_2 (rd l1 (ji14))).bind fun bt1012 => (if bt1012.1 < x7_2 then (ybp.j2 k2 l0 l1 (l1.length : Int) x6_2 x7_2 true) else (if bt1012.1 = x7_2 then (if (ji14) < (l0.length : Int) then (ybp.j2 k2 l0 l1 (l1.length : Int) x6_2 x7_2 (decide (bt1012.2 ≤ (rd l0 (ji14))))) else (none)) else (ybp.j2 k2 l0 l1 (l1.length : Int) x6_2 x7_2 false)))) else (none)) else (none)) = some r := by first | (rw [hji14] at H; exact H) | (simp only [hji14] at H ⊢; exact H)
             have hji14w : (IntKind.i64.wrap ((l1.length : Int) - 2)) = ji14 := (ydk _).trans hji14
             by_cases c15 : 0 ≤ (ji14)
             · rw [if_pos c15] at H
               have c15b0 : decide (0 ≤ (ji14)) = true := decide_eq_true c15
               clear c15
               by_cases c16 : (ji14) < (l1.length : Int)
               · rw [if_pos c16] at H
                 have c16b0 : decide ((ji14) < (l1.length : Int)) = true := decide_eq_true c16
                 clear c16
                 replace H := Option.bind_eq_some_iff.mp H
                 obtain ⟨⟨t1012, t1013⟩, A170, H⟩ := H
                 replace H : (if t1012 < x7_2 then (ybp.j2 k2 l0 l1 (l1.length : Int) x6_2 x7_2 true) else (if t1012 = x7_2 then (if (ji14) < (l0.length : Int) then (ybp.j2 k2 l0 l1 (l1.length : Int) x6_2 x7_2 (decide (t1013 ≤ (rd l0 (ji14))))) else (none)) else (ybp.j2 k2 l0 l1 (l1.length : Int) x6_2 x7_2 false))) = some r := H
                 have A17 := Aside0.mk A170
                 clear A170
                 have HC18 := Aside0.mk H
                 clear H
                 have p1011 : 0 ≤ ((ji14) : Int) := of_decide_eq_true Z26_
                 have q1011 : (ji14) < (l1.length : Int) := of_decide_eq_true Z26_
                 obtain ⟨ad1011, e1011, hx1011_0⟩ := Kd.ybs HR1.out (ji14) p1011 q1011
                 obtain rfl : ad1002 = ad1011 := (by injection e1011)
                 replace p1011 := eq_true p1011
                 replace q1011 := eq_true q1011
                 go_upto_region 9 with (first | (go_at_call 92; (with_reducible refine (bits_Mul64.calls x6_2 (rd l1 (ji14)) t1012 t1013 _ A17.out).mono ?_); rintro e w' ⟨rfl, ⟨nd, rfl⟩⟩; (try first | exact ⟨rfl, _, World.drewN_drewN _ _ _⟩ | exact ⟨rfl, _, Eq.trans (World.drewN_drewN _ _ _) (congrArg (World.drewN _) (Nat.add_assoc _ _ _))⟩)))
                 repeat (go_quiet (first | (go_at_call 92; (with_reducible refine (bits_Mul64.calls x6_2 (rd l1 (ji14)) t1012 t1013 _ A17.out).mono ?_); rintro e w' ⟨rfl, ⟨nd, rfl⟩⟩; (try clear A17); (try first | exact ⟨rfl, _, World.drewN_drewN _ _ _⟩ | exact ⟨rfl, _, Eq.trans (World.drewN_drewN _ _ _) (congrArg (World.drewN _) (Nat.add_assoc _ _ _))⟩))); go_upto_region 9 with (first | (go_at_call 92; (with_reducible refine (bits_Mul64.calls x6_2 (rd l1 (ji14)) t1012 t1013 _ A17.out).mono ?_); rintro e w' ⟨rfl, ⟨nd, rfl⟩⟩; (try clear A17); (try first | exact ⟨rfl, _, World.drewN_drewN _ _ _⟩ | exact ⟨rfl, _, Eq.trans (World.drewN_drewN _ _ _) (congrArg (World.drewN _) (Nat.add_assoc _ _ _))⟩))))
                 (try simp only [Act.put, List.setIfInBounds_toArray, List.set_cons_zero, List.set_cons_succ])
                 go_cut [85] (fun v85 wc => ∃ (kq : Nat) (x85_17 : Bool), v85 = .bool x85_17 ∧ Aside0 (ybp.j2 kq l0 l1 (l1.length : Int) x6_2 x7_2 x85_17 = some r) ∧ Aside0 (kq ≤ k2) ∧ ybj w wc)
                 case first =>
                  have H := HC18.out
                  clear HC18
                  by_cases c19 : t1012 < x7_2
                  · rw [if_pos c19] at H
                    have c19b0 : decide (t1012 < x7_2) = true := decide_eq_true c19
                    clear c19
                    (first | rw [c19b0] | (simp only [ydk, yfz]; rw [c19b0]) | skip)
                    have H' := Aside0.mk H
                    clear H
                    go_wp2
                    repeat (go_quiet (fail); try go_wp2)
                    go_meet
                    case rel => exact ⟨_, (true), Z27_, H', ⟨by have := HJ7.out; have := HK2.out; first | omega | exact Nat.le_refl _⟩, by repeat (first | exact ybj.refl _ | apply ybj.step)⟩
                  · rw [if_neg c19] at H
                    have c19b0 : decide (t1012 < x7_2) = false := decide_eq_false c19
                    clear c19
                    (first | rw [c19b0] | (simp only [ydk, yfz]; rw [c19b0]) | skip)
                    by_cases c20 : t1012 = x7_2
                    · rw [if_pos c20] at H
                      have c20b0 : (t1012 == x7_2) = true := beq_iff_eq.mpr c20
                      have c20b1 : (t1012 != x7_2) = false := bne_eq_false_iff_eq.mpr c20
                      clear c20
                      by_cases c21 : (ji14) < (l0.length : Int)
                      · rw [if_pos c21] at H
                        have c21b0 : decide ((ji14) < (l0.length : Int)) = true := decide_eq_true c21
                        clear c21
                        have H' := Aside0.mk H
                        clear H
                        have p1014 : 0 ≤ ((ji14) : Int) := of_decide_eq_true Z26_
                        have q1014 : (ji14) < (l0.length : Int) := of_decide_eq_true Z26_
                        obtain ⟨ad1014, e1014, hx1014_0⟩ := Kd.ybs HR0.out (ji14) p1014 q1014
                        obtain rfl : ad1001 = ad1014 := (by injection e1014)
                        replace p1014 := eq_true p1014
                        replace q1014 := eq_true q1014
                        go_wp2
                        repeat (go_quiet (fail); try go_wp2)
                        go_meet
                        case rel => exact ⟨_, (decide (t1013 ≤ (rd l0 (ji14)))), (by first | rfl | (simp; done) | (simp only [← hji14] <;> (first | rfl | simp)) | (simp [*]; done)), H', ⟨by have := HJ7.out; have := HK2.out; first | omega | exact Nat.le_refl _⟩, by repeat (first | exact ybj.refl _ | apply ybj.step)⟩
                      · rw [if_neg c21] at H
                        exact absurd H (by simp)
                    · rw [if_neg c20] at H
                      have c20b0 : (t1012 == x7_2) = false := beq_eq_false_iff_ne.mpr c20
                      have c20b1 : (t1012 != x7_2) = true := bne_iff_ne.mpr c20
                      have H' := Aside0.mk H
                      clear H
                      go_wp2
                      repeat (go_quiet (fail); try go_wp2)
                      go_meet
                      case rel => exact ⟨_, (false), Z27_, H', ⟨by have := HJ7.out; have := HK2.out; first | omega | exact Nat.le_refl _⟩, by repeat (first | exact ybj.refl _ | apply ybj.step)⟩
                 case rest =>
                  clear HC18
                  try clear c1
                  try clear p1
                  try clear q1
                  try clear hx1
                  try clear c2
                  try clear p2
                  try clear c3
                  try clear c3b0
                  try clear c3b1
                  try clear c4
                  try clear c4b0
                  try clear c4b1
                  try clear c6
                  try clear c6b0
                  try clear p6
                  try clear c7
                  try clear c7b0
                  try clear c9
                  try clear c9b0
                  try clear c10
                  try clear c10b0
                  try clear p10
                  try clear q10
                  try clear hx10
                  try clear c12
                  try clear c12b0
                  try clear c13
                  try clear c13b0
                  try clear c15
                  try clear c15b0
                  try clear c16
                  try clear c16b0
                  try clear c19
                  try clear c19b0
                  try clear c20
                  try clear c20b0
                  try clear c20b1
                  try clear c21
                  try clear c21b0
                  try clear hx1001_0
                  try clear hx1002_0
                  try clear hx1003_0
                  try clear hx1004_0
                  try clear hx1005_0
                  try clear hx1008_0
                  try clear hx1009_0
                  try clear hx1010_0
                  try clear hx1011_0
                  try clear hx1014_0
                  try clear p1
                  try clear p10
                  try clear p1001
                  try clear p1002
                  try clear p1003
                  try clear p1004
                  try clear p1005
                  try clear p1008
                  try clear p1009
                  try clear p1010
                  try clear p1011
                  try clear p1014
                  try clear p2
                  try clear p6
                  try clear q1
                  try clear q10
                  try clear q1001
                  try clear q1002
                  try clear q1003
                  try clear q1004
                  try clear q1005
                  try clear q1008
                  try clear q1009
                  try clear q1010
                  try clear q1011
                  try clear q1014
                  obtain ⟨kq, x85_17, rfl, HA, HJ17, ⟨mc17, rfl⟩⟩ := hcut
                  cases kq with
                  | zero => exact absurd HA.out (by simp [ybp.j2])
                  | succ kj17 =>
                   have H := HA.out
                   clear HA
                   simp only [ybp.j2] at H
                   by_cases c22 : x85_17 = true
                   · subst c22
                     have H1 : (some x6_2) = some r := by rw [if_pos rfl] at H; exact H
                     clear H
                     have H := H1
                     clear H1
                     obtain rfl := Option.some.inj H
                     go_wp2
                     repeat (go_quiet (fail); try go_wp2)
                     go_ret
                     exact ⟨by first | rfl | (simp; done) | (simp only [← hji5, ← hji14] <;> (first | rfl | simp)) | (simp [*]; done), by repeat (first | exact ybj.refl _ | apply ybj.step)⟩
                   · replace c22 := Bool.eq_false_iff.mpr c22
                     subst c22
                     have H1 : (if 0 ≤ (wrap64 ((l1.length : Int) - 1)) then (if (wrap64 ((l1.length : Int) - 1)) < (l1.length : Int) then (if (IntKind.u64.wrap (x7_2 + (rd l1 (wrap64 ((l1.length : Int) - 1))))) < (rd l1 (wrap64 ((l1.length : Int) - 1))) then (some (IntKind.u64.wrap (x6_2 - 1))) else (ybp.l0 kj17 l0 l1 (l1.length : Int) (IntKind.u64.wrap (x6_2 - 1)) (IntKind.u64.wrap (x7_2 + (rd l1 (wrap64 ((l1.length : Int) - 1))))))) else (none)) else (none)) = some r := by rw [if_neg (show ¬ (false = true) by decide)] at H; exact H
                     clear H
                     have H := H1
                     clear H1
                     obtain ⟨ji23, hji23⟩ : ∃ j_ : Int, (wrap64 ((l1.length : Int) - 1)) = j_ := ⟨_, rfl⟩
                     (try (have hji23eji5 := hji23; rw [hji5] at hji23eji5))
                     replace H : (if 0 ≤ (ji23) then (if (ji23) < (l1.length : Int) then (if (IntKind.u64.wrap (x7_2 + (rd l1 (ji23)))) < (rd l1 (ji23)) then (some (IntKind.u64.wrap (x6_2 - 1))) else (ybp.l0 kj17 l0 l1 (l1.length : Int) (IntKind.u64.wrap (x6_2 - 1)) (IntKind.u64.wrap (x7_2 + (rd l1 (ji23)))))) else (none)) else (none)) = some r := by first | (rw [hji23] at H; exact H) | (simp only [hji23] at H ⊢; exact H)
                     have hji23w : (IntKind.i64.wrap ((l1.length : Int) - 1)) = ji23 := (ydk _).trans hji23
                     by_cases c24 : 0 ≤ (ji23)
                     · rw [if_pos c24] at H
                       have c24b0 : decide (0 ≤ (ji23)) = true := decide_eq_true c24
                       clear c24
                       by_cases c25 : (ji23) < (l1.length : Int)
                       · rw [if_pos c25] at H
                         have c25b0 : decide ((ji23) < (l1.length : Int)) = true := decide_eq_true c25
                         clear c25
                         by_cases c26 : (IntKind.u64.wrap (x7_2 + (rd l1 (ji23)))) < (rd l1 (ji23))
                         · rw [if_pos c26] at H
                           have c26b0 : decide ((IntKind.u64.wrap (x7_2 + (rd l1 (ji23)))) < (rd l1 (ji23))) = true := decide_eq_true c26
                           clear c26
                           obtain rfl := Option.some.inj H
                           have p1015 : 0 ≤ ((ji23) : Int) := of_decide_eq_true Z26_
                           have q1015 : (ji23) < (l1.length : Int) := of_decide_eq_true Z26_
                           obtain ⟨ad1015, e1015, hx1015_0⟩ := Kd.ybs HR1.out (ji23) p1015 q1015
                           obtain rfl : ad1002 = ad1015 := (by injection e1015)
                           replace p1015 := eq_true p1015
                           replace q1015 := eq_true q1015
                           have p1016 : 0 ≤ ((ji23) : Int) := of_decide_eq_true Z26_
                           have q1016 : (ji23) < (l1.length : Int) := of_decide_eq_true Z26_
                           obtain ⟨ad1016, e1016, hx1016_0⟩ := Kd.ybs HR1.out (ji23) p1016 q1016
                           obtain rfl : ad1002 = ad1016 := (by injection e1016)
                           replace p1016 := eq_true p1016
                           replace q1016 := eq_true q1016
                           go_wp2
                           repeat (go_quiet (fail); try go_wp2)
                           go_ret
                           exact ⟨by first | rfl | (simp; done) | (simp only [← hji5, ← hji14, ← hji23] <;> (first | rfl | simp)) | (simp [*]; done), by repeat (first | exact ybj.refl _ | apply ybj.step)⟩
                         · rw [if_neg c26] at H
                           have c26b0 : decide ((IntKind.u64.wrap (x7_2 + (rd l1 (ji23)))) < (rd l1 (ji23))) = false := decide_eq_false c26
                           clear c26
                           have H' := Aside0.mk H
                           clear H
                           have p1015 : 0 ≤ ((ji23) : Int) := of_decide_eq_true Z26_
                           have q1015 : (ji23) < (l1.length : Int) := of_decide_eq_true Z26_
                           obtain ⟨ad1015, e1015, hx1015_0⟩ := Kd.ybs HR1.out (ji23) p1015 q1015
                           obtain rfl : ad1002 = ad1015 := (by injection e1015)
                           replace p1015 := eq_true p1015
                           replace q1015 := eq_true q1015
                           have p1016 : 0 ≤ ((ji23) : Int) := of_decide_eq_true Z26_
                           have q1016 : (ji23) < (l1.length : Int) := of_decide_eq_true Z26_
                           obtain ⟨ad1016, e1016, hx1016_0⟩ := Kd.ybs HR1.out (ji23) p1016 q1016
                           obtain rfl : ad1002 = ad1016 := (by injection e1016)
                           replace p1016 := eq_true p1016
                           replace q1016 := eq_true q1016
                           go_wp2
                           repeat (go_quiet (fail); try go_wp2)
                           go_roundg kj17
                           case measure => have := HJ7.out; have := HK2.out; have := HJ17.out; omega
                           case rel => exact ⟨(IntKind.u64.wrap (x6_2 - 1)), (IntKind.u64.wrap (x7_2 + (rd l1 (ji23)))), Z27_, (by first | rfl | (simp; done) | (simp only [← hji23] <;> (first | rfl | simp)) | (simp [*]; done)), H', ⟨by have := HJ7.out; have := HK2.out; have := HJ17.out; omega⟩, by repeat (first | exact ybj.refl _ | apply ybj.step)⟩
                       · rw [if_neg c25] at H
                         exact absurd H (by simp)
                     · rw [if_neg c24] at H
                       exact absurd H (by simp)
               · rw [if_neg c16] at H
                 exact absurd H (by simp)
             · rw [if_neg c15] at H
               exact absurd H (by simp)
       · rw [if_neg c7] at H
         exact absurd H (by simp)
     · rw [if_neg c6] at H
       exact absurd H (by simp)
   · rw [if_neg c4] at H
     exact absurd H (by simp)
 · rw [if_neg c3] at H
   exact absurd H (by simp)
end Go.Proofs.Ytgnaaaliadiekaa.B
end
