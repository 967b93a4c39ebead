/- A part of the proof (merged by pack.py, a program of this session: what the row's proof names). -/
import Derived.Test.YtgnaaaliadiekaaM4
import Derived.Test.YtgnaaaliadiekaaM5
import Derived.Test.YtgnaaaliadiekaaM0
import Derived.Lib.BitFns
import Derived.Lib.Hide
section
namespace Go.Proofs.Ytgnaaaliadiekaa.B
open Go.RowKit Go.Proofs.YtgnaaaliadiekaaW.PrintWords Go.Proofs.YtgnaaaliadiekaaW.PrintLast Go.Proofs.YtgnaaaliadiekaaW.PrintMore
attribute [local go_sem] ycj ych ycs ycr ybw ybv yci ycg   -- for this text's walks alone
attribute [local go_sem] yca ybn ybz ybm
set_option linter.unusedVariables false
set_option linter.unusedSimpArgs false
def yaq.l0 : Nat → Int → Int → Option (Int)
 | 0, _, _ => none
 | k + 1, x3, x4 => if x4 > 0 then (yaq.l0 k (wrap64 (x3 + 1)) (wrap64 (Int.tdiv x4 2))) else (some x3)
def yaq.f (k : Nat) (l0 : List Int) : Option (Int) := if (l0.length : Int) = 0 then (some 0) else (if 0 ≤ (wrap64 ((l0.length : Int) - 1)) then (if (wrap64 ((l0.length : Int) - 1)) < (l0.length : Int) then (yaq.l0 k (wrap64 (16 * (wrap64 ((l0.length : Int) - 1)))) (rd l0 (wrap64 ((l0.length : Int) - 1)))) else (none)) else (none))
set_option maxHeartbeats 8000000 in
set_option maxRecDepth 100000 in
theorem yaq.calls (k : Nat) (A0 : Option Addr) (c0 : Nat) (l0 : List Int) (r : Int) (w : World) (hr0 : Kd.C (Kd.int .i64) w A0 l0.length l0) (hc0 : l0.length ≤ c0) (h : yaq.f k l0 = some r) :
 Calls Try.prog 14 #[.slice A0 l0.length c0] w fun e w' => e = .returned (.int .i64 r) ∧ ybj w w' := by
 have HR0 := Aside0.mk hr0
 have HC0 := Aside0.mk hc0
 clear hr0 hc0
 have H : (if (l0.length : Int) = 0 then (some 0) else (if 0 ≤ (wrap64 ((l0.length : Int) - 1)) then (if (wrap64 ((l0.length : Int) - 1)) < (l0.length : Int) then (yaq.l0 k (wrap64 (16 * (wrap64 ((l0.length : Int) - 1)))) (rd l0 (wrap64 ((l0.length : Int) - 1)))) else (none)) else (none))) = some r := h
 clear h
 by_cases c2 : (l0.length : Int) = 0
 · rw [if_pos c2] at H
   have c2b0 : ((l0.length : Int) == 0) = true := beq_iff_eq.mpr c2
   have c2b1 : ((l0.length : Int) != 0) = false := bne_eq_false_iff_eq.mpr c2
   clear c2
   obtain rfl := Option.some.inj H
   go_enter Try.func14, Try.ntmps14
   go_wp2
   go_ret
   exact ⟨by first | rfl | (simp; done) | (simp [*]; done), by repeat (first | exact ybj.refl _ | apply ybj.step)⟩
 · rw [if_neg c2] at H
   have c2b0 : ((l0.length : Int) == 0) = false := beq_eq_false_iff_ne.mpr c2
   have c2b1 : ((l0.length : Int) != 0) = true := bne_iff_ne.mpr c2
   have c2b2 : ¬ (l0 = []) := fun h_ => c2 (by rw [h_]; rfl)
   obtain ⟨ji3, hji3⟩ : ∃ j_ : Int, (wrap64 ((l0.length : Int) - 1)) = j_ := ⟨_, rfl⟩
   replace H : (if 0 ≤ (ji3) then (if (ji3) < (l0.length : Int) then (yaq.l0 k (wrap64 (16 * (ji3))) (rd l0 (ji3))) else (none)) else (none)) = some r := by first | (rw [hji3] at H; exact H) | (simp only [hji3] at H ⊢; exact H)
   have hji3w : (IntKind.i64.wrap ((l0.length : Int) - 1)) = ji3 := (ydk _).trans hji3
   by_cases c4 : 0 ≤ (ji3)
   · rw [if_pos c4] at H
     have c4b0 : decide (0 ≤ (ji3)) = true := decide_eq_true c4
     clear c4
     by_cases c5 : (ji3) < (l0.length : Int)
     · rw [if_pos c5] at H
       have c5b0 : decide ((ji3) < (l0.length : Int)) = true := decide_eq_true c5
       clear c5
       have H' := Aside0.mk H
       clear H
       have p1001 : 0 ≤ ((ji3) : Int) := of_decide_eq_true Z26_
       have q1001 : (ji3) < (l0.length : Int) := of_decide_eq_true Z26_
       obtain ⟨ad1001, e1001, hx1001_0⟩ := Kd.ybs HR0.out (ji3) p1001 q1001
       cases e1001
       replace p1001 := eq_true p1001
       replace q1001 := eq_true q1001
       go_enter Try.func14, Try.ntmps14
       go_wp2
       go_loopg [3, 4] k (fun kq v3 v4 w' => ∃ (x3_1 : Int) (x4_1 : Int), v3 = .int .i64 x3_1 ∧ v4 = .int .i64 x4_1 ∧ Aside0 (yaq.l0 kq x3_1 x4_1 = some r) ∧ Aside0 (kq ≤ k) ∧ ybj w w')
       case atStart => exact ⟨(wrap64 (16 * (ji3))), (rd l0 (ji3)), Z25_, Z25_, H', ⟨Nat.le_refl _⟩, by repeat (first | exact ybj.refl _ | apply ybj.step)⟩
       case round =>
        clear H'
        try clear c1
        try clear p1
        try clear q1
        try clear hx1
        try clear c2
        try clear c2b0
        try clear c2b1
        try clear c2b2
        try clear p2
        try clear c4
        try clear c4b0
        try clear c5
        try clear c5b0
        try clear hx1001_0
        try clear p1001
        try clear q1001
        obtain ⟨x3_1, x4_1, rfl, rfl, HA, HK1, ⟨m1, rfl⟩⟩ := hrel
        cases gk with
        | zero => exact absurd HA.out (by simp [yaq.l0])
        | succ k1 =>
         have H := HA.out
         clear HA
         simp only [yaq.l0] at H
         by_cases c6 : x4_1 > 0
         · rw [if_pos c6] at H
           have c6b0 : decide (0 < x4_1) = true := decide_eq_true c6
           clear c6
           have H' := Aside0.mk H
           clear H
           go_wp2
           go_roundg k1
           case measure => have := HK1.out; omega
           case rel => exact ⟨(wrap64 (x3_1 + 1)), (wrap64 (Int.tdiv x4_1 2)), Z27_, Z27_, H', ⟨by have := HK1.out; omega⟩, by repeat (first | exact ybj.refl _ | apply ybj.step)⟩
         · rw [if_neg c6] at H
           have c6b0 : decide (0 < x4_1) = false := decide_eq_false c6
           clear c6
           obtain rfl := Option.some.inj H
           go_wp2
           go_ret
           exact ⟨by first | rfl | (simp; done) | (simp only [← hji3] <;> (first | rfl | simp)) | (simp [*]; done), by repeat (first | exact ybj.refl _ | apply ybj.step)⟩
     · rw [if_neg c5] at H
       exact absurd H (by simp)
   · rw [if_neg c4] at H
     exact absurd H (by simp)
end Go.Proofs.Ytgnaaaliadiekaa.B
end
section
namespace Go.Proofs.Ytgnaaaliadiekaa.B
open Go.RowKit Go.Proofs.YtgnaaaliadiekaaW.PrintWords Go.Proofs.YtgnaaaliadiekaaW.PrintLast Go.Proofs.YtgnaaaliadiekaaW.PrintMore
attribute [local go_sem] ycj ych ycs ycr ybw ybv yci ycg   -- for this text's walks alone
attribute [local go_sem] yca ybn ybz ybm
set_option linter.unusedVariables false
set_option linter.unusedSimpArgs false
def bits_Len64.f (a0 : Int) : Option Int := if 0 ≤ a0 then (if a0 ≤ 18446744073709551615 then some (Lib.bitLen a0.toNat : Int) else none) else none
theorem len8tab_size : Lib.len8tab.size = 256 := by decide +kernel
theorem len8tab_all : ∀ n : Fin 256, (Lib.len8tab[n.val]'(by rw [len8tab_size]; exact n.2)).toNat = Lib.bitLen n.val := by decide +kernel
theorem len8tab_at (n : Nat) (h : n < Lib.len8tab.size) : (Lib.len8tab[n]'h).toNat = Lib.bitLen n := len8tab_all ⟨n, by rw [len8tab_size] at h; exact h⟩
theorem len64_div (x : Int) (h0 : 0 ≤ x) : (x / 4294967296 / 65536 / 256).toNat = x.toNat / 72057594037927936 ∧ (x / 4294967296 / 65536).toNat = x.toNat / 281474976710656 ∧ (x / 4294967296 / 256).toNat = x.toNat / 1099511627776 ∧
    (x / 4294967296).toNat = x.toNat / 4294967296 ∧ (x / 65536 / 256).toNat = x.toNat / 16777216 ∧ (x / 65536).toNat = x.toNat / 65536 ∧ (x / 256).toNat = x.toNat / 256 := by
  obtain ⟨n, rfl⟩ := Int.eq_ofNat_of_zero_le h0
  have d (a b : Nat) : ((a : Int) / (b : Int)).toNat = a / b := rfl
  refine ⟨?_, ?_, ?_, rfl, ?_, rfl, rfl⟩
  · show n / 4294967296 / 65536 / 256 = n / 72057594037927936
    rw [Nat.div_div_eq_div_mul, Nat.div_div_eq_div_mul]
  · show n / 4294967296 / 65536 = n / 281474976710656
    rw [Nat.div_div_eq_div_mul]
  · show n / 4294967296 / 256 = n / 1099511627776
    rw [Nat.div_div_eq_div_mul]
  · show n / 65536 / 256 = n / 16777216
    rw [Nat.div_div_eq_div_mul]
theorem yfb (a b : Nat) (ha : a ≤ 64) (hb : b ≤ 64) : wrap64 ((a : Int) + wrap64 (b : Int)) = ((a + b : Nat) : Int) := by
  unfold wrap64
  omega
set_option maxHeartbeats 4000000 in
set_option maxRecDepth 100000 in
theorem len64_any (x : Int) (w : World) (h0 : 0 ≤ x) (h1 : x ≤ 18446744073709551615) :
    Calls Try.prog 77 #[.int .u64 x] w fun e w' => e = .returned (.int .i64 (Lib.bitLen x.toNat)) ∧ w' = w := by
  have hsz := len8tab_size
  have HS := Lib.hid hsz
  clear hsz
  go_enter Try.func77, Try.ntmps77
  go_wp2
  all_goals first | (go_ret; refine ⟨congrArg Ending.returned (congrArg (Value.int IntKind.i64) ?_), rfl⟩) | (exfalso; have := HS.out; omega)
  all_goals (rw [len8tab_at])
  all_goals have hs := HS.out
  all_goals obtain ⟨e56, e48, e40, e32, e24, e16, e8⟩ := len64_div x h0
  · have h56 : 72057594037927936 ≤ x.toNat := by
      have h1 : 1 ≤ x / 4294967296 / 65536 / 256 := Int.le_ediv_of_mul_le (by decide) (by omega)
      have h2 : 1 ≤ x.toNat / 72057594037927936 := by rw [← e56]; omega
      exact (Nat.one_le_div_iff (by decide)).1 h2
    have s := Lib.bitLen_shift56 x.toNat h56 (by omega)
    have l := Lib.bitLen_le8' (x / 4294967296 / 65536 / 256) (by omega) (by omega)
    rw [e56] at l ⊢
    rw [s]
    clear s e56 e48 e40 e32 e24 e16 e8
    exact yfb 56 _ (by omega) (by omega)
  · have s := Lib.bitLen_shift48 x.toNat (by omega) (by omega)
    have l := Lib.bitLen_le8' (x / 4294967296 / 65536) (by omega) (by omega)
    rw [e48] at l ⊢
    rw [s]
    clear s e56 e48 e40 e32 e24 e16 e8
    exact yfb 48 _ (by omega) (by omega)
  · have s := Lib.bitLen_shift40 x.toNat (by omega) (by omega)
    have l := Lib.bitLen_le8' (x / 4294967296 / 256) (by omega) (by omega)
    rw [e40] at l ⊢
    rw [s]
    clear s e56 e48 e40 e32 e24 e16 e8
    exact yfb 40 _ (by omega) (by omega)
  · have s := Lib.bitLen_shift32 x.toNat (by omega) (by omega)
    have l := Lib.bitLen_le8' (x / 4294967296) (by omega) (by omega)
    rw [e32] at l ⊢
    rw [s]
    clear s e56 e48 e40 e32 e24 e16 e8
    exact yfb 32 _ (by omega) (by omega)
  · have s := Lib.bitLen_shift24 x.toNat (by omega) (by omega)
    have l := Lib.bitLen_le8' (x / 65536 / 256) (by omega) (by omega)
    rw [e24] at l ⊢
    rw [s]
    clear s e56 e48 e40 e32 e24 e16 e8
    exact yfb 24 _ (by omega) (by omega)
  · have s := Lib.bitLen_shift16 x.toNat (by omega) (by omega)
    have l := Lib.bitLen_le8' (x / 65536) (by omega) (by omega)
    rw [e16] at l ⊢
    rw [s]
    clear s e56 e48 e40 e32 e24 e16 e8
    exact yfb 16 _ (by omega) (by omega)
  · have s := Lib.bitLen_shift8 x.toNat (by omega) (by omega)
    have l := Lib.bitLen_le8' (x / 256) (by omega) (by omega)
    rw [e8] at l ⊢
    rw [s]
    clear s e56 e48 e40 e32 e24 e16 e8
    exact yfb 8 _ (by omega) (by omega)
  · clear e56 e48 e40 e32 e24 e16 e8
    have l := Lib.bitLen_le8' x (by omega) (by omega)
    generalize Lib.bitLen x.toNat = q at l ⊢
    clear hs HS
    unfold wrap64
    omega
theorem bits_Len64.calls (a0 : Int) (r : Int) (w : World) (h : bits_Len64.f a0 = some r) :
    Calls Try.prog 77 #[.int .u64 a0] w fun e w' => e = .returned (.int .i64 r) ∧ ybj w w' := by
  unfold bits_Len64.f at h
  split at h
  · split at h
    · injection h with h
      subst h
      refine (len64_any a0 w (by assumption) (by assumption)).mono ?_
      rintro e w' ⟨rfl, rfl⟩
      exact ⟨rfl, ybj.refl _⟩
    · cases h
  · cases h
end Go.Proofs.Ytgnaaaliadiekaa.B
end
section
namespace Go.Proofs.Ytgnaaaliadiekaa.B
open Go.RowKit Go.Proofs.YtgnaaaliadiekaaW.PrintWords Go.Proofs.YtgnaaaliadiekaaW.PrintLast Go.Proofs.YtgnaaaliadiekaaW.PrintMore
attribute [local go_sem] ycj ych ycs ycr ybw ybv yci ycg   -- for this text's walks alone
attribute [local go_sem] yca ybn ybz ybm
set_option linter.unusedVariables false
set_option linter.unusedSimpArgs false
def ydm.l0 : Nat → List Int → Int → Option (Int)
 | 0, _, _ => none
 | k + 1, x0, x3 => if x3 ≥ 0 then (if 0 ≤ x3 then (if x3 < (x0.length : Int) then (if (rd x0 x3) = 0 then (ydm.l0 k x0 (wrap64 (x3 - 1))) else ((bits_Len64.f (rd x0 x3)).bind fun t1003 => (some (wrap64 ((wrap64 (64 * x3)) + t1003))))) else (none)) else (none)) else (some 0)
def ydm.f (k : Nat) (l0 : List Int) : Option (Int) := ydm.l0 k l0 (wrap64 ((l0.length : Int) - 1))
set_option maxHeartbeats 8000000 in
set_option maxRecDepth 100000 in
theorem ydm.calls (k : Nat) (A0 : Option Addr) (c0 : Nat) (l0 : List Int) (r : Int) (w : World) (hr0 : Kd.C (Kd.int .u64) w A0 l0.length l0) (hc0 : l0.length ≤ c0) (h : ydm.f k l0 = some r) :
 Calls Try.prog 41 #[.slice A0 l0.length c0] w fun e w' => e = .returned (.int .i64 r) ∧ ybj w w' := by
 have HR0 := Aside0.mk hr0
 have HC0 := Aside0.mk hc0
 clear hr0 hc0
 have H : (ydm.l0 k l0 (wrap64 ((l0.length : Int) - 1))) = some r := h
 clear h
 have H' := Aside0.mk H
 clear H
 go_enter Try.func41, Try.ntmps41
 go_wp2
 go_loopg [3] k (fun kq v3 w' => ∃ (x3_1 : Int), v3 = .int .i64 x3_1 ∧ Aside0 (ydm.l0 kq l0 x3_1 = some r) ∧ Aside0 (kq ≤ k) ∧ ybj w w')
 case atStart => exact ⟨(wrap64 ((l0.length : Int) - 1)), Z27_, H', ⟨Nat.le_refl _⟩, by repeat (first | exact ybj.refl _ | apply ybj.step)⟩
 case round =>
  clear H'
  obtain ⟨x3_1, rfl, HA, HK1, ⟨m1, rfl⟩⟩ := hrel
  cases gk with
  | zero => exact absurd HA.out (by simp [ydm.l0])
  | succ k1 =>
   have H := HA.out
   clear HA
   simp only [ydm.l0] at H
   by_cases c2 : x3_1 ≥ 0
   · rw [if_pos c2] at H
     have c2b0 : decide (0 ≤ x3_1) = true := decide_eq_true c2
     clear c2
     by_cases c3 : 0 ≤ x3_1
     · rw [if_pos c3] at H
       have c3b0 : decide (0 ≤ x3_1) = true := decide_eq_true c3
       clear c3
       by_cases c4 : x3_1 < (l0.length : Int)
       · rw [if_pos c4] at H
         have c4b0 : decide (x3_1 < (l0.length : Int)) = true := decide_eq_true c4
         clear c4
         by_cases c5 : (rd l0 x3_1) = 0
         · rw [if_pos c5] at H
           have c5b0 : ((rd l0 x3_1) == 0) = true := beq_iff_eq.mpr c5
           have c5b1 : ((rd l0 x3_1) != 0) = false := bne_eq_false_iff_eq.mpr c5
           clear c5
           have H' := Aside0.mk H
           clear H
           have p1001 : 0 ≤ (x3_1 : Int) := of_decide_eq_true Z26_
           have q1001 : x3_1 < (l0.length : Int) := of_decide_eq_true Z26_
           obtain ⟨ad1001, e1001, hx1001_0⟩ := Kd.ybs HR0.out x3_1 p1001 q1001
           cases e1001
           replace p1001 := eq_true p1001
           replace q1001 := eq_true q1001
           go_wp2
           go_roundg k1
           case measure => have := HK1.out; omega
           case rel => exact ⟨(wrap64 (x3_1 - 1)), Z27_, H', ⟨by have := HK1.out; omega⟩, by repeat (first | exact ybj.refl _ | apply ybj.step)⟩
         · rw [if_neg c5] at H
           have c5b0 : ((rd l0 x3_1) == 0) = false := beq_eq_false_iff_ne.mpr c5
           have c5b1 : ((rd l0 x3_1) != 0) = true := bne_iff_ne.mpr c5
           replace H := Option.bind_eq_some_iff.mp H
           obtain ⟨t1003, A60, H⟩ := H
           replace H : (some (wrap64 ((wrap64 (64 * x3_1)) + t1003))) = some r := H
           have A6 := Aside0.mk A60
           clear A60
           obtain rfl := Option.some.inj H
           have p1001 : 0 ≤ (x3_1 : Int) := of_decide_eq_true Z26_
           have q1001 : x3_1 < (l0.length : Int) := of_decide_eq_true Z26_
           obtain ⟨ad1001, e1001, hx1001_0⟩ := Kd.ybs HR0.out x3_1 p1001 q1001
           cases e1001
           replace p1001 := eq_true p1001
           replace q1001 := eq_true q1001
           have p1002 : 0 ≤ (x3_1 : Int) := of_decide_eq_true Z26_
           have q1002 : x3_1 < (l0.length : Int) := of_decide_eq_true Z26_
           obtain ⟨ad1002, e1002, hx1002_0⟩ := Kd.ybs HR0.out x3_1 p1002 q1002
           obtain rfl : ad1001 = ad1002 := (by injection e1002)
           replace p1002 := eq_true p1002
           replace q1002 := eq_true q1002
           go_wp2_with (first | ((with_reducible refine yar (f := 77) rfl ?_); refine yce (some 22) rfl rfl Try.func77 (by kernel_rfl) rfl #[.int .u64 (rd l0 x3_1)] rfl Z6_ ?_; (with_reducible refine (bits_Len64.calls (rd l0 x3_1) t1003 _ A6.out).mono ?_); rintro e w' ⟨rfl, ⟨nd, rfl⟩⟩; refine ⟨_, rfl, ?_⟩))
           go_ret
           exact ⟨by first | rfl | (simp; done) | (simp [*]; done), by repeat (first | exact ybj.refl _ | apply ybj.step)⟩
       · rw [if_neg c4] at H
         exact absurd H (by simp)
     · rw [if_neg c3] at H
       exact absurd H (by simp)
   · rw [if_neg c2] at H
     have c2b0 : decide (0 ≤ x3_1) = false := decide_eq_false c2
     clear c2
     obtain rfl := Option.some.inj H
     go_wp2
     go_ret
     exact ⟨by first | rfl | (simp; done) | (simp [*]; done), by repeat (first | exact ybj.refl _ | apply ybj.step)⟩
end Go.Proofs.Ytgnaaaliadiekaa.B
end
section
namespace Go.Proofs.Ytgnaaaliadiekaa.B
open Go.RowKit Go.Proofs.YtgnaaaliadiekaaW.PrintWords Go.Proofs.YtgnaaaliadiekaaW.PrintLast Go.Proofs.YtgnaaaliadiekaaW.PrintMore
attribute [local go_sem] ycj ych ycs ycr ybw ybv yci ycg   -- for this text's walks alone
attribute [local go_sem] yca ybn ybz ybm
set_option linter.unusedVariables false
set_option linter.unusedSimpArgs false
mutual
def yah.l0 : Nat → List Int → List Int → Int → Option (List Int)
 | 0, _, _, _ => none
 | k + 1, x0, x3, x4 => if x4 < (x0.length : Int) then (if 0 ≤ x4 then (yah.l1 k x0 x3 x4 (rd x0 x4) 0) else (none)) else ((yam.f k x3).bind fun t1001 => (some t1001))
def yah.l1 : Nat → List Int → List Int → Int → Int → Int → Option (List Int)
 | 0, _, _, _, _, _ => none
 | k + 1, x0, x3, x4, x5, x6 => if x6 < 4 then (if x3.length < 17592186044416 then (yah.l1 k x0 (x3 ++ [wrap64 (Int.tmod x5 65536)]) x4 (IntKind.u64.wrap (Int.tdiv x5 65536)) (wrap64 (x6 + 1))) else (none)) else (yah.l0 k x0 x3 (wrap64 (x4 + 1)))
end
def yah.f (k : Nat) (l0 : List Int) : Option (List Int) := yah.l0 k l0 ([] : List Int) 0
set_option maxHeartbeats 8000000 in
set_option maxRecDepth 100000 in
theorem yah.calls (k : Nat) (A0 : Option Addr) (c0 : Nat) (l0 : List Int) (r : List Int) (w : World) (hr0 : Kd.C (Kd.int .u64) w A0 l0.length l0) (hc0 : l0.length ≤ c0) (h : yah.f k l0 = some r) :
 Calls Try.prog 12 #[.slice A0 l0.length c0] w fun e w' => ∃ v0_ : Value, e = .returned (v0_) ∧ Kd.R (Kd.int .i64) 3 w' w.heap.size (fun _ => True) v0_ r ∧ Below w.heap.size w w' := by
 have HR0 := Aside0.mk hr0
 have HC0 := Aside0.mk hc0
 clear hr0 hc0
 have HB := Aside0.mk (Below.refl w.heap.size w)
 have H : (yah.l0 k l0 ([] : List Int) 0) = some r := h
 clear h
 have H' := Aside0.mk H
 clear H
 go_enter Try.func12, Try.ntmps12
 go_wp2
 go_loopg [3, 4] k (fun kq v3 v4 w' => ∃ (x3_1 : List Int) (x4_1 : Int), v4 = .int .i64 x4_1 ∧ Aside0 (yah.l0 kq l0 x3_1 x4_1 = some r) ∧ Aside0 (kq ≤ k) ∧ Aside0 (Kd.R (Kd.int .i64) 3 w' w.heap.size (fun _ => True) v3 x3_1) ∧ Aside0 (Below w.heap.size w w'))
 case atStart => exact ⟨(([] : List Int)), (0), Z27_, H', ⟨Nat.le_refl _⟩, ⟨by first | exact Kd.yfv _ _ _ _ _ | exact Kd.yid _ _ _ _ _ | exact Kd.yia _ _ _ _ _ | exact Kd.yic _ _ _ _ _ | exact Kd.yib _ _ _ _ _⟩, ⟨by repeat (first | (with_reducible first | exact HB.out | apply yad | apply yab | apply yac) | exact HB.out)⟩⟩
 case round =>
  clear H'
  try clear c1
  obtain ⟨x3_1, x4_1, rfl, HA, HK1, HO_3, HB⟩ := hrel
  cases gk with
  | zero => exact absurd HA.out (by simp [yah.l0])
  | succ k1 =>
   have H := HA.out
   clear HA
   simp only [yah.l0] at H
   by_cases c2 : x4_1 < (l0.length : Int)
   · rw [if_pos c2] at H
     have c2b0 : decide (x4_1 < (l0.length : Int)) = true := decide_eq_true c2
     clear c2
     by_cases c3 : 0 ≤ x4_1
     · rw [if_pos c3] at H
       have c3b0 : decide (0 ≤ x4_1) = true := decide_eq_true c3
       clear c3
       have H' := Aside0.mk H
       clear H
       have p1004 : 0 ≤ (x4_1 : Int) := of_decide_eq_true Z26_
       have q1004 : x4_1 < (l0.length : Int) := of_decide_eq_true Z26_
       obtain ⟨ad1004, e1004, hx1004_0⟩ := Kd.ybs HR0.out x4_1 p1004 q1004
       cases e1004
       replace hx1004_0 := (HB.out.cell (World.block_lt_of_cell? w _ hx1004_0)).trans hx1004_0
       replace p1004 := eq_true p1004
       replace q1004 := eq_true q1004
       go_wp2
       go_loopg [3, 5, 6] k1 (fun kq v3 v5 v6 w' => ∃ (x3_2 : List Int) (x5_2 : Int) (x6_2 : Int), v5 = .int .u64 x5_2 ∧ v6 = .int .i64 x6_2 ∧ Aside0 (yah.l1 kq l0 x3_2 x4_1 x5_2 x6_2 = some r) ∧ Aside0 (kq ≤ k1) ∧ Aside0 (Kd.R (Kd.int .i64) 3 w' w.heap.size (fun _ => True) v3 x3_2) ∧ Aside0 (Below w.heap.size w w'))
       case atStart => exact ⟨(x3_1), (rd l0 x4_1), (0), Z27_, Z27_, H', ⟨Nat.le_refl _⟩, ⟨by (with_reducible repeat (first | apply Kd.yba | apply Kd.yaz | apply Kd.ybi)); exact HO_3.out⟩, ⟨by repeat (first | (with_reducible first | exact HB.out | apply yad | apply yab | apply yac) | exact HB.out)⟩⟩
       case round =>
        clear H'
        try clear c1
        try clear p1
        try clear q1
        try clear hx1
        try clear c2
        try clear c2b0
        try clear p2
        try clear c3
        try clear c3b0
        try clear hx1004_0
        try clear p1004
        try clear q1004
        obtain ⟨x3_2, x5_2, x6_2, rfl, rfl, HA, HK2, HO_3, HB⟩ := hrel
        cases gk with
        | zero => exact absurd HA.out (by simp [yah.l1])
        | succ k2 =>
         have H := HA.out
         clear HA
         simp only [yah.l1] at H
         by_cases c4 : x6_2 < 4
         · rw [if_pos c4] at H
           have c4b0 : decide (x6_2 < 4) = true := decide_eq_true c4
           clear c4
           by_cases c5 : x3_2.length < 17592186044416
           · rw [if_pos c5] at H
             have LMc5 := Aside0.mk c5
             clear c5
             obtain ⟨y1005, hy1005⟩ : ∃ y_ : List Int, y_ = (x3_2 ++ [wrap64 (Int.tmod x5_2 65536)]) := ⟨_, rfl⟩
             replace H : (yah.l1 k2 l0 y1005 x4_1 (IntKind.u64.wrap (Int.tdiv x5_2 65536)) (wrap64 (x6_2 + 1))) = some r := by first | (rw [hy1005]; with_reducible exact H) | (have H2_ := (Option.bind_some _ _).symm.trans H; rw [hy1005]; with_reducible exact H2_) | (have H2_ := (Option.bind_some _ _).symm.trans H; with_reducible exact H2_) | with_reducible exact H | (rw [hy1005]; exact H) | exact H
             have Ny1005 := Aside0.mk hy1005
             clear hy1005
             have H' := Aside0.mk H
             clear H
             go_wp2_with (first | ((with_reducible refine ycl (b := .append) (xs := #[.tmp 21, .tmp 25]) rfl ?_); at_builtin; refine Kd.ydz (Kd.int .i64) (w0 := w) w.heap.size rfl (.tmp 21) (.tmp 25) 28 3 (.int .i64 0) 8 rfl Try.underlying28 info3 rfl (by decide) (by omega) u3 x3_2 (wrap64 (Int.tmod x5_2 65536)) [.int .i64 (wrap64 (Int.tmod x5_2 65536))] (fun _ => True) (fun _ => False) rfl rfl ?aP (fun _ hk => hk.elim) ?aF ?aO ?aB ?aS ?aL ?_; (case aP => exact rfl); (case aB => exact Z7_); (case aF => exact (fun _ _ => trivial)); (case aO => exact Z18_); (case aS => exact (yaj Z7_)); (case aL => have := LMc5.out; omega); intro v1006 w6 ho hb hg hat; rw [← Ny1005.out] at ho; have n0_ := Aside0.mk (hb); have n1_ := Aside0.mk (ho); clear HB; clear HO_3; have HB := n0_; have HO1007 := n1_; clear n0_ n1_; clear ho hb hg hat))
             go_roundg k2
             case measure => have := HK1.out; have := HK2.out; omega
             case rel => exact ⟨(y1005), (IntKind.u64.wrap (Int.tdiv x5_2 65536)), (wrap64 (x6_2 + 1)), Z27_, Z27_, H', ⟨by have := HK1.out; have := HK2.out; omega⟩, ⟨by (with_reducible repeat (first | apply Kd.yba | apply Kd.yaz | apply Kd.ybi)); exact HO1007.out⟩, ⟨by repeat (first | (with_reducible first | exact HB.out | apply yad | apply yab | apply yac) | exact HB.out)⟩⟩
           · rw [if_neg c5] at H
             exact absurd H (by simp)
         · rw [if_neg c4] at H
           have c4b0 : decide (x6_2 < 4) = false := decide_eq_false c4
           clear c4
           have H' := Aside0.mk H
           clear H
           go_wp2
           go_roundg k2
           case measure => have := HK1.out; have := HK2.out; omega
           case rel => exact ⟨(x3_2), (wrap64 (x4_1 + 1)), Z27_, H', ⟨by have := HK1.out; have := HK2.out; omega⟩, ⟨by (with_reducible repeat (first | apply Kd.yba | apply Kd.yaz | apply Kd.ybi)); exact HO_3.out⟩, ⟨by repeat (first | (with_reducible first | exact HB.out | apply yad | apply yab | apply yac) | exact HB.out)⟩⟩
     · rw [if_neg c3] at H
       exact absurd H (by simp)
   · rw [if_neg c2] at H
     have c2b0 : decide (x4_1 < (l0.length : Int)) = false := decide_eq_false c2
     clear c2
     replace H := Option.bind_eq_some_iff.mp H
     obtain ⟨t1001, A70, H⟩ := H
     replace H : (some t1001) = some r := H
     have A7 := Aside0.mk A70
     clear A70
     obtain rfl := Option.some.inj H
     obtain ⟨Ao8, co8, eo8⟩ := Kd.ybc HO_3.out
     subst eo8
     go_wp2_with (first | ((with_reducible refine yar (f := 43) rfl ?_); refine yce (some 30) rfl rfl Try.func43 (by kernel_rfl) rfl #[.slice Ao8 x3_1.length co8] rfl Z6_ ?_; (with_reducible refine (yam.calls k1 (fun k_ => some k_ = (.slice Ao8 x3_1.length co8 : Value).ownBlock) (.slice Ao8 x3_1.length co8) x3_1 t1001 w _ ?side1 ?side2 A7.out).mono ?_); (case side1 => repeat (first | (with_reducible first | exact HB.out | apply yad | apply yab | apply yac) | exact HB.out)); (case side2 => exact Kd.yfh rfl HO_3.out); rintro e w9 ⟨v1002, rfl, ho0, hb, hkp⟩; refine ⟨_, rfl, ?_⟩; have n0_ := Aside0.mk (Kd.ycn (ok' := fun k_ => True) ho0 (fun k_ hk_ => trivial)); have n1_ := Aside0.mk (hb); clear HB; clear HO_3; have HO1003 := n0_; have HB := n1_; clear n0_ n1_; (try clear hb); (try clear hkp); (try clear ho0)))
     go_ret
     exact ⟨_, by first | rfl | (simp [yap, yao] <;> rfl) | (simp [*, yap, yao] <;> rfl), by (with_reducible repeat (first | apply Kd.yba | apply Kd.yaz | apply Kd.ybi)); exact HO1003.out, by repeat (first | (with_reducible first | exact HB.out | apply yad | apply yab | apply yac) | exact HB.out)⟩
end Go.Proofs.Ytgnaaaliadiekaa.B
end
