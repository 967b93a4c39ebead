/- A part of the proof (merged by pack.py, a program of this session: what the row's proof names). -/
import Derived.Test.YtgnaaaliadiekaaM4
import Derived.Test.YtgnaaaliadiekaaM8
import Derived.Test.YtgnaaaliadiekaaM11
import Derived.Test.YtgnaaaliadiekaaM14
import Derived.Test.YtgnaaaliadiekaaM27
import Derived.Test.YtgnaaaliadiekaaM29
import Derived.Test.YtgnaaaliadiekaaM30
import Derived.Test.YtgnaaaliadiekaaM31
import Derived.Test.YtgnaaaliadiekaaM0
import Derived.OwnWalk
section
namespace Go.Proofs.Ytgnaaaliadiekaa.B
open Go.RowKit Go.Proofs.YtgnaaaliadiekaaW.PrintWords Go.Proofs.YtgnaaaliadiekaaW.PrintLast Go.Proofs.YtgnaaaliadiekaaW.PrintMore
attribute [local go_sem] ycj ych ycs ycr ybw ybv yci ycg   -- for this text's walks alone
attribute [local go_sem] yca ybn ybz ybm
set_option linter.unusedVariables false
set_option linter.unusedSimpArgs false
def yio.go (x : Int) : List Int → List Int → Nat → Int → Int → Option (Bool × List Int)
  | [], U, o, c, b => if b.toNat ≤ 1 then some (decide (yif (U.getD o 0) c b > 0), U.set o (ygy (U.getD o 0) c b)) else none
  | y :: v, U, o, c, b => (bits_Mul64.f x y).bind fun t => if b.toNat ≤ 1 then yio.go x v (U.set o (ygy (U.getD o 0) (yeb t.2 c 0) b)) (o + 1) (IntKind.u64.wrap (t.1 + yff t.2 c 0)) (yif (U.getD o 0) (yeb t.2 c 0) b) else none
theorem ygv {w : World} {base g N cap : Nat} {ok : Nat → Prop} {U : List Int} {e : TypeId} (ho : Kd.R (Kd.int .u64) e w base ok (.slice (some ⟨g, 0, none⟩) N cap) U) (i : Nat) (hi : i < N) :
    w.cell? ⟨g, i, none⟩ = some (.int .u64 (U.getD i 0)) ∧ w.frozen? ⟨g, i, none⟩ = false := by
  have h := Kd.ydb 0 ho (i : Int) (by omega) (by omega)
  rw [Int.toNat_natCast] at h
  exact h
theorem yhc {w : World} {base g N cap : Nat} {ok : Nat → Prop} {U : List Int} {e : TypeId} (ho : Kd.R (Kd.int .u64) e w base ok (.slice (some ⟨g, 0, none⟩) N cap) U) (i : Nat) (x : Int) :
    Kd.R (Kd.int .u64) e (w.setCell ⟨g, i, none⟩ (.int .u64 x)) base ok (.slice (some ⟨g, 0, none⟩) N cap) (U.set i x) ∧ w.grownBy (w.setCell ⟨g, i, none⟩ (.int .u64 x)) (some g) := by
  have h := Kd.yej ho (i : Int) x
  rw [Int.toNat_natCast] at h
  exact h
theorem yfr {a b c : World} {r : Option Nat} (h : a.grownBy b r) (k : b.grownBy c r) : a.grownBy c r :=
  ⟨k.os.trans h.os, k.tape.trans h.tape, k.output.trans h.output, Nat.le_trans h.size k.size, fun i hi hr => (k.block i (Nat.lt_of_lt_of_le hi h.size) hr).trans (h.block i hi hr)⟩
theorem grown_drewN (a : World) (n : Nat) (r : Option Nat) : a.grownBy (a.drewN n) r := ⟨rfl, rfl, rfl, Nat.le_refl _, fun _ _ _ => rfl⟩
theorem grown_self (a : World) (r : Option Nat) : a.grownBy a r := ⟨rfl, rfl, rfl, Nat.le_refl _, fun _ _ _ => rfl⟩
theorem drop_at {l : List Int} {j : Nat} (h : j < l.length) : l.drop j = rd l (j : Int) :: l.drop (j + 1) := by
  rw [List.drop_eq_getElem_cons h]
  simp [rd, List.getD, h]
set_option maxHeartbeats 4000000 in
set_option maxRecDepth 100000 in
theorem yio.sub (x : Int) (U : List Int) (g o m c0 cap : Nat) (A1 : Option Addr) (c1 : Nat) (l1 : List Int) (ok : Nat → Prop) (r1 : Bool) (r2 : List Int) (w0 w : World) (hB : Below w0.heap.size w0 w)
    (ho : Kd.R (Kd.int .u64) 61 w w0.heap.size ok (.slice (some ⟨g, 0, none⟩) U.length cap) U) (hm : o + m ≤ U.length) (hl : l1.length < m) (hmm : m ≤ 1099511627776)
    (hv : ∀ W, w.grownBy W (some g) → Kd.C (Kd.int .u64) W A1 l1.length l1) (h : yio.go x l1 U o 0 0 = some (r1, r2)) :
    Calls Try.prog 74 #[.slice (some ⟨g, o, none⟩) m c0, .slice A1 l1.length c1, .int .u64 x] w fun e w' => e = .returned (.bool r1) ∧ Kd.R (Kd.int .u64) 61 w' w0.heap.size ok (.slice (some ⟨g, 0, none⟩) U.length cap) r2 ∧ Below w0.heap.size w0 w' ∧ w.grownBy w' (some g) := by
  have HO := Aside0.mk ho
  have HB := Aside0.mk hB
  have HV := Aside0.mk hv
  have HH := Aside0.mk h
  have HM := Aside0.mk hm
  have HL := Aside0.mk hl
  have HMM := Aside0.mk hmm
  clear ho hB hv h hm hl hmm
  go_enter Try.func74, Try.ntmps74
  go_wp2
  go_loopw [7, 8, 17] (fun v7 v8 v17 w' => ∃ (j : Nat) (U' : List Int) (c b : Int), v7 = .int .u64 c ∧ v8 = .int .u64 b ∧ v17 = .int .i64 j ∧ Aside0 (j ≤ l1.length) ∧ Aside0 (yio.go x (l1.drop j) U' (o + j) c b = some (r1, r2)) ∧
    Aside0 (Kd.R (Kd.int .u64) 61 w' w0.heap.size ok (.slice (some ⟨g, 0, none⟩) U.length cap) U') ∧ Aside0 (w.grownBy w' (some g)) ∧ Aside0 (Below w0.heap.size w0 w')) (fun _ _ v17 _ => l1.length - (intOf v17).toNat)
  case atStart => exact ⟨0, U, 0, 0, rfl, rfl, rfl, ⟨Nat.zero_le _⟩, HH, HO, ⟨grown_self _ _⟩, HB⟩
  case round =>
    obtain ⟨j, U', c, b, rfl, rfl, rfl, HJ, HA, HO', HG, HB'⟩ := hrel
    by_cases hj : j < l1.length
    · have H := HA.out
      rw [drop_at hj] at H
      simp only [yio.go] at H
      obtain ⟨⟨th, tl⟩, ht, H⟩ := Option.bind_eq_some_iff.mp H
      have hb : b.toNat ≤ 1 := by
        rcases Nat.lt_or_ge 1 b.toNat with hq | hq
        · rw [if_neg (by omega)] at H
          cases H
        · exact hq
      rw [if_pos hb] at H
      have HT := Aside0.mk ht
      have HH' := Aside0.mk H
      have hbt := eq_true hb
      have hbd : decide (b.toNat ≤ 1) = true := decide_eq_true hb
      obtain ⟨ad, e1, hx⟩ := Kd.ybs (HV.out wr HG.out) (j : Int) (by omega) (by omega)
      subst e1
      rw [Int.toNat_natCast] at hx
      have hu : o + j < U.length := by have := HM.out; have := HL.out; omega
      obtain ⟨hc, hf⟩ := ygv HO'.out (o + j) hu
      have hjm : j < m := by have := HL.out; omega
      have hjb : j < 1099511627776 := by have := HL.out; have := HMM.out; omega
      have HJJ := Aside0.mk hj
      have HU := Aside0.mk hu
      clear H ht hb HA HH HO HB hu
      have hjd : decide (j < l1.length) = true := decide_eq_true hj
      go_wp2_with fail
      refine (bits_Mul64.calls x (rd l1 (j : Int)) th tl _ HT.out).mono ?_
      rintro e w' ⟨rfl, ⟨nd, rfl⟩⟩
      go_wp2
      go_roundw
      case rel =>
        have hp := yhc (Kd.yaz HO'.out nd) (o + j) (ygy (U'.getD (o + j) 0) (yeb tl c 0) b)
        exact ⟨j + 1, _, _, _, rfl, rfl, by go_num, ⟨HJJ.out⟩, HH', ⟨hp.1⟩, ⟨yfr HG.out (yfr (grown_drewN _ _ _) hp.2)⟩, ⟨(yab HB'.out nd).grown hp.2 HB'.out.size (fun k hk => by injection hk with hk; subst hk; exact Kd.ycf HO'.out _ rfl)⟩⟩
      case measure => simp [intOf]; omega
    · have hjl : j = l1.length := by have := HJ.out; omega
      have H := HA.out
      rw [List.drop_of_length_le (by omega)] at H
      simp only [yio.go] at H
      have hb : b.toNat ≤ 1 := by
        rcases Nat.lt_or_ge 1 b.toNat with hq | hq
        · rw [if_neg (by omega)] at H
          cases H
        · exact hq
      rw [if_pos hb] at H
      have hbt := eq_true hb
      have hbd : decide (b.toNat ≤ 1) = true := decide_eq_true hb
      simp only [Option.some.injEq, Prod.mk.injEq] at H
      obtain ⟨h1, h2⟩ := H
      have hu : o + l1.length < U.length := by have := HM.out; have := HL.out; omega
      obtain ⟨hc, hf⟩ := ygv HO'.out (o + l1.length) hu
      have hlm : l1.length < m := HL.out
      have hlb : l1.length < 1099511627776 := by have := HMM.out; omega
      have H1 := Aside0.mk h1
      have H2 := Aside0.mk h2
      have HJL := Aside0.mk hjl
      clear h1 h2 hb HA HH HO HB hu hjl
      have hjd : decide (j < l1.length) = false := decide_eq_false hj
      go_wp2
      go_ret
      have hp := yhc HO'.out (o + l1.length) (ygy (U'.getD (o + l1.length) 0) c b)
      have h2 := H2.out
      rw [HJL.out] at h2
      rw [h2] at hp
      have h1 := H1.out
      rw [HJL.out] at h1
      exact ⟨by rw [← h1]; rfl, hp.1, HB'.out.grown hp.2 HB'.out.size (fun k hk => by injection hk with hk; subst hk; exact Kd.ycf HO'.out _ rfl), yfr HG.out hp.2⟩
def yhy.go : List Int → List Int → Nat → Int → Option (List Int)
  | [], U, o, c => some (U.set o (IntKind.u64.wrap (U.getD o 0 + c)))
  | y :: v, U, o, c => if c.toNat ≤ 1 then yhy.go v (U.set o (yeb (U.getD o 0) y c)) (o + 1) (yff (U.getD o 0) y c) else none
set_option maxHeartbeats 4000000 in
set_option maxRecDepth 100000 in
theorem yhy.sub (U : List Int) (g o m c0 cap : Nat) (A1 : Option Addr) (c1 : Nat) (l1 : List Int) (ok : Nat → Prop) (r2 : List Int) (w0 w : World) (hB : Below w0.heap.size w0 w)
    (ho : Kd.R (Kd.int .u64) 61 w w0.heap.size ok (.slice (some ⟨g, 0, none⟩) U.length cap) U) (hm : o + m ≤ U.length) (hl : l1.length < m) (hmm : m ≤ 1099511627776)
    (hv : ∀ W, w.grownBy W (some g) → Kd.C (Kd.int .u64) W A1 l1.length l1) (h : yhy.go l1 U o 0 = some r2) :
    Calls Try.prog 75 #[.slice (some ⟨g, o, none⟩) m c0, .slice A1 l1.length c1] w fun e w' => e = .returned (.tuple #[]) ∧ Kd.R (Kd.int .u64) 61 w' w0.heap.size ok (.slice (some ⟨g, 0, none⟩) U.length cap) r2 ∧ Below w0.heap.size w0 w' ∧ w.grownBy w' (some g) := by
  have HO := Aside0.mk ho
  have HB := Aside0.mk hB
  have HV := Aside0.mk hv
  have HH := Aside0.mk h
  have HM := Aside0.mk hm
  have HL := Aside0.mk hl
  have HMM := Aside0.mk hmm
  clear ho hB hv h hm hl hmm
  go_enter Try.func75, Try.ntmps75
  go_wp2
  go_loopw [4, 9] (fun v4 v9 w' => ∃ (j : Nat) (U' : List Int) (c : Int), v4 = .int .u64 c ∧ v9 = .int .i64 j ∧ Aside0 (j ≤ l1.length) ∧ Aside0 (yhy.go (l1.drop j) U' (o + j) c = some r2) ∧
    Aside0 (Kd.R (Kd.int .u64) 61 w' w0.heap.size ok (.slice (some ⟨g, 0, none⟩) U.length cap) U') ∧ Aside0 (w.grownBy w' (some g)) ∧ Aside0 (Below w0.heap.size w0 w')) (fun _ v9 _ => l1.length - (intOf v9).toNat)
  case atStart => exact ⟨0, U, 0, rfl, rfl, ⟨Nat.zero_le _⟩, HH, HO, ⟨grown_self _ _⟩, HB⟩
  case round =>
    obtain ⟨j, U', c, rfl, rfl, HJ, HA, HO', HG, HB'⟩ := hrel
    by_cases hj : j < l1.length
    · have H := HA.out
      rw [drop_at hj] at H
      simp only [yhy.go] at H
      have hb : c.toNat ≤ 1 := by
        rcases Nat.lt_or_ge 1 c.toNat with hq | hq
        · rw [if_neg (by omega)] at H
          cases H
        · exact hq
      rw [if_pos hb] at H
      have HH' := Aside0.mk H
      have hbt := eq_true hb
      have hbd : decide (c.toNat ≤ 1) = true := decide_eq_true hb
      obtain ⟨ad, e1, hx⟩ := Kd.ybs (HV.out wr HG.out) (j : Int) (by omega) (by omega)
      subst e1
      rw [Int.toNat_natCast] at hx
      have hu : o + j < U.length := by have := HM.out; have := HL.out; omega
      obtain ⟨hc, hf⟩ := ygv HO'.out (o + j) hu
      have hjm : j < m := by have := HL.out; omega
      have hjb : j < 1099511627776 := by have := HL.out; have := HMM.out; omega
      have HJJ := Aside0.mk hj
      clear H hb HA HH HO HB hu
      have hjd : decide (j < l1.length) = true := decide_eq_true hj
      go_wp2
      go_roundw
      case rel =>
        have hp := yhc HO'.out (o + j) (yeb (U'.getD (o + j) 0) (rd l1 (j : Int)) c)
        exact ⟨j + 1, _, _, rfl, by go_num, ⟨HJJ.out⟩, HH', ⟨hp.1⟩, ⟨yfr HG.out hp.2⟩, ⟨HB'.out.grown hp.2 HB'.out.size (fun k hk => by injection hk with hk; subst hk; exact Kd.ycf HO'.out _ rfl)⟩⟩
      case measure => simp [intOf]; omega
    · have hjl : j = l1.length := by have := HJ.out; omega
      have H := HA.out
      rw [List.drop_of_length_le (by omega)] at H
      simp only [yhy.go, Option.some.injEq] at H
      have hu : o + l1.length < U.length := by have := HM.out; have := HL.out; omega
      obtain ⟨hc, hf⟩ := ygv HO'.out (o + l1.length) hu
      have hlm : l1.length < m := HL.out
      have hlb : l1.length < 1099511627776 := by have := HMM.out; omega
      have H2 := Aside0.mk H
      have HJL := Aside0.mk hjl
      clear H HA HH HO HB hu hjl
      have hjd : decide (j < l1.length) = false := decide_eq_false hj
      go_wp2
      repeat (go_quiet (fail); try go_wp2)
      go_end0
      have h2 := H2.out
      rw [HJL.out] at h2
      have hp := yhc HO'.out (o + l1.length) (IntKind.u64.wrap (U'.getD (o + l1.length) 0 + c))
      rw [h2] at hp
      exact ⟨rfl, hp.1, HB'.out.grown hp.2 HB'.out.size (fun k hk => by injection hk with hk; subst hk; exact Kd.ycf HO'.out _ rfl), yfr HG.out hp.2⟩
def ydj.many (k : Nat) (V : List Int) (n : Nat) : Nat → List Int → List Int → Option (List Int × List Int)
  | 0, U, q => some (U, q)
  | i + 1, U, q => (ybp.f k ((U.take (i + (n + 1))).drop i) V).bind fun x => (yio.go x V U i 0 0).bind fun t =>
      if t.1 = true then (yhy.go V t.2 i 0).bind fun U2 => ydj.many k V n i U2 (q.set i (IntKind.u64.wrap (x - 1)))
      else ydj.many k V n i t.2 (q.set i x)
def ydj.f (k : Nat) (l0 l1 : List Int) : Option (List Int × List Int × Bool) :=
  (ybr.f k l0).bind fun a => (ybr.f k l1).bind fun b =>
    if b.length ≤ 1 then ycy.f k l0 l1
    else (yco.f k a b).bind fun c =>
      if c < 0 then some ([], a, true)
      else if a.length < 1073741824 ∧ b.length ≤ a.length then
        (bits_LeadingZeros64.f (rd b ((b.length : Int) - 1))).bind fun by_ => (yav.f k b (wrap64 (-by_))).bind fun V => (yav.f k a (wrap64 (-by_))).bind fun S =>
          if V.length ≤ b.length ∧ a.length + 1 ≤ S.length + 2 ∧ S.length < 1073741824 then
            (ydj.many k V b.length (a.length - b.length + 1) ((S ++ [0, 0]).take (a.length + 1)) (List.replicate (a.length - b.length + 1) 0)).bind fun t =>
              (ybr.f k t.2).bind fun q => (yav.f k t.1 by_).bind fun r => some (q, r, true)
          else none
      else none
theorem yhv {w W w1 : World} {v : Value} {X : List Int} (hB : Below w.heap.size w W) (ho : Kd.R (Kd.int .u64) 61 w1 W.heap.size (fun _ => True) v X) : Kd.R (Kd.int .u64) 61 w1 w.heap.size (fun _ => True) v X := Kd.ybl ho hB.size
theorem yen {w w1 : World} {base : Nat} {v : Value} {X : List Int} {row : Option Nat} (ho : Kd.R (Kd.int .u64) 61 w base (fun _ => True) v X) (hg : w.grownBy w1 row) (hne : ∀ k, v.ownBlock = some k → some k ≠ row) : Kd.R (Kd.int .u64) 61 w1 base (fun _ => True) v X :=
  Kd.ycn (Kd.R_grown (Kd.yfh rfl ho) hg (fun k hk => hne k hk.symm)) (fun _ _ => trivial)
theorem row_ok {w : World} {base : Nat} {v : Value} {X : List Int} {ok : Nat → Prop} (ho : Kd.R (Kd.int .u64) 61 w base (fun _ => True) v X) (h : ∀ k, v.ownBlock = some k → ok k) : Kd.R (Kd.int .u64) 61 w base ok v X := Kd.R_reok rfl ho h
theorem div_own2 {w1 W : World} {base n : Nat} {v v1 : Value} {S : List Int} (ho : Kd.R (Kd.int .u64) 61 w1 base (fun _ => True) v1 (S ++ [0, 0])) (hat : v1.ownBlock = v.ownBlock ∨ ∃ b, v1.ownBlock = some b ∧ W.heap.size ≤ b)
    (h1 : ∀ k, v.ownBlock = some k → n ≤ k) (h2 : n ≤ W.heap.size) : ∃ g cap, v1 = .slice (some ⟨g, 0, none⟩) (S.length + 2) cap ∧ n ≤ g := by
  obtain ⟨g, cap, e, _⟩ := Kd.yey ho (by simp)
  subst e
  refine ⟨g, cap, by simp, ?_⟩
  rcases hat with hat | ⟨b, hb, hle⟩
  · exact h1 g (by rw [← hat]; rfl)
  · have : g = b := by simpa [Value.ownBlock] using hb
    omega
theorem div_own1 {w1 W : World} {base Q : Nat} {v1 : Value} (hQ : 1 ≤ Q) (ho : Kd.R (Kd.int .u64) 61 w1 base (fun _ => True) v1 (List.replicate Q 0)) (hnew : ∃ b, v1.ownBlock = some b ∧ W.heap.size ≤ b) : ∃ g cap, v1 = .slice (some ⟨g, 0, none⟩) Q cap ∧ W.heap.size ≤ g := by
  obtain ⟨g, cap, e, _⟩ := Kd.yey ho (by simp; omega)
  subst e
  obtain ⟨b, hb, hle⟩ := hnew
  have : g = b := by simpa [Value.ownBlock] using hb
  exact ⟨g, cap, by simp, by omega⟩
theorem nnorm (k : Nat) (A0 : Option Addr) (n c0 : Nat) (l0 : List Int) (r : List Int) (w : World) (hn : n = l0.length) (hr0 : Kd.C (Kd.int .u64) w A0 l0.length l0) (hc0 : l0.length ≤ c0) (h : ybr.f k l0 = some r) :
    Calls Try.prog 54 #[.slice A0 n c0] w fun e w' => ∃ v0_ : Value, e = .returned (v0_) ∧ Kd.R (Kd.int .u64) 61 w' w.heap.size (fun _ => True) v0_ r ∧ Below w.heap.size w w' := by subst hn; exact ybr.calls k A0 c0 l0 r w hr0 hc0 h
theorem nshift (k : Nat) (A0 : Option Addr) (n c0 : Nat) (l0 : List Int) (a1 : Int) (r : List Int) (w : World) (hn : n = l0.length) (hr0 : Kd.C (Kd.int .u64) w A0 l0.length l0) (hc0 : l0.length ≤ c0) (h : yav.f k l0 a1 = some r) :
    Calls Try.prog 40 #[.slice A0 n c0, .int .i64 a1] w fun e w' => ∃ v0_ : Value, e = .returned (v0_) ∧ Kd.R (Kd.int .u64) 61 w' w.heap.size (fun _ => True) v0_ r ∧ Below w.heap.size w w' := by subst hn; exact yav.calls k A0 c0 l0 a1 r w hr0 hc0 h
theorem part_read {w : World} {base g N cap : Nat} {U : List Int} (ho : Kd.R (Kd.int .u64) 61 w base (fun _ => True) (.slice (some ⟨g, 0, none⟩) N cap) U) (i m : Nat) (hm : i + m ≤ N) (hp : 0 < m) :
    Kd.C (Kd.int .u64) w (some ⟨g, i, none⟩) ((U.take (i + m)).drop i).length ((U.take (i + m)).drop i) ∧ ((U.take (i + m)).drop i).length = m ∧ m ≤ cap - i := by
  obtain ⟨h1, h2, h3⟩ := Kd.R_reads' ho
  have h := Kd.C_mid (lo := i) (hi := i + m) (c := cap) h3 (by omega) (by omega) (by omega)
  rw [if_neg (by omega), Option.map_some, add_plain] at h
  refine ⟨?_, by rw [List.length_drop, List.length_take]; omega, by omega⟩
  rw [show i * (Kd.int .u64).sz = i from Nat.mul_one i] at h
  exact h
theorem part_cut {g N cap : Nat} (i m : Nat) (hm : i + m ≤ N) (hp : 0 < m) (hc : N ≤ cap) (x y : Int) (hx : x = i) (hy : y = (i : Int) + m) : ∀ W : World, (Instr.slice 23 (.slice (some ⟨g, 0, none⟩) N cap) (some (.int .i64 x)) (some (.int .i64 y)) none).run Try.prog W = .ok (.slice (some ⟨g, i, none⟩) m (cap - i)) W := by
  intro W
  obtain ⟨i0, hi0, _, hsz, _⟩ := info_parts ygd
  subst hx hy
  have h := cut_mid (P := Try.prog) 23 61 .i64 .i64 Try.underlying23 hi0 1 hsz (some ⟨g, 0, none⟩) N cap (i : Int) ((i : Int) + m) (by omega) (by omega) (by omega) hc W
  rw [h, if_neg (by omega)]
  have e1 : ((i : Int) + (m : Int)).toNat - (i : Int).toNat = m := by omega
  have e2 : (some (⟨g, 0, none⟩ : Addr)).map (fun x => x.add ((i : Int).toNat * 1)) = some ⟨g, i, none⟩ := by rw [Option.map_some, add_plain, Int.toNat_natCast, Nat.mul_one]
  rw [e1, e2, Int.toNat_natCast]
theorem nguess (k : Nat) (A0 : Option Addr) (n c0 : Nat) (l0 : List Int) (A1 : Option Addr) (c1 : Nat) (l1 : List Int) (r : Int) (w : World) (hn : n = l0.length) (hr0 : Kd.C (Kd.int .u64) w A0 l0.length l0) (hc0 : l0.length ≤ c0) (hr1 : Kd.C (Kd.int .u64) w A1 l1.length l1) (hc1 : l1.length ≤ c1) (h : ybp.f k l0 l1 = some r) :
    Calls Try.prog 73 #[.slice A0 n c0, .slice A1 l1.length c1] w fun e w' => e = .returned (.int .u64 r) ∧ ybj w w' := by subst hn; exact ybp.calls k A0 c0 l0 A1 c1 l1 r w hr0 hc0 hr1 hc1 h
theorem blk_ne {g gq N c : Nat} (h : g ≠ gq) : ∀ k, (.slice (some ⟨gq, 0, none⟩) N c : Value).ownBlock = some k → some k ≠ some g := by
  intro k hk he
  have h1 : gq = k := by simpa [Value.ownBlock] using hk
  have h2 : k = g := by simpa using he
  omega
theorem lit2 (W : World) (T : Nat) : Kd.C (Kd.int .u64) (W.alloc (.cells #[.int .u64 0, .int .u64 0] T)) (some ⟨W.heap.size, 0, none⟩) 2 [0, 0] := by
  have hh := heap_alloc_new W (.cells #[.int .u64 0, .int .u64 0] T)
  have h2 : ∀ j, j < 2 → (W.alloc (.cells #[.int .u64 0, .int .u64 0] T)).cell? ⟨W.heap.size, j, none⟩ = some (.int .u64 0) := by
    intro j hj
    unfold World.cell?
    rw [hh]
    match j, hj with
    | 0, _ => rfl
    | 1, _ => rfl
  refine ⟨rfl, by omega, fun _ => ⟨_, rfl, fun j p hj => ?_⟩⟩
  have hj2 : j < 2 := (List.getElem?_eq_some_iff.1 hj).1
  have hp : p = 0 := by
    match j, hj with
    | 0, hj => simpa using hj.symm
    | 1, hj => simpa using hj.symm
  subst hp
  refine ⟨[.int .u64 0], rfl, rfl, fun i u hu => ?_⟩
  match i, hu with
  | 0, hu =>
    have hu' : Value.int .u64 0 = u := by simpa using hu
    subst hu'
    rw [add_plain]
    exact h2 _ (by show j * 1 + 0 < 2; omega)
set_option maxHeartbeats 4000000 in
set_option maxRecDepth 100000 in
theorem ydj.less (k : Nat) (A0 : Option Addr) (c0 : Nat) (l0 : List Int) (A1 : Option Addr) (c1 : Nat) (l1 : List Int) (r1 : List Int) (r2 : List Int) (r3 : Bool) (w : World) (hr0 : Kd.C (Kd.int .u64) w A0 l0.length l0) (hc0 : l0.length ≤ c0) (hr1 : Kd.C (Kd.int .u64) w A1 l1.length l1) (hc1 : l1.length ≤ c1) (a b : List Int) (c : Int) (h0 : ybr.f k l0 = some a) (h1 : ybr.f k l1 = some b) (hz : ¬ b.length ≤ 1) (hcm : yco.f k a b = some c) (hc : c < 0) (e1 : r1 = []) (e2 : a = r2) (e3 : r3 = true) :
    Calls Try.prog 38 #[.slice A0 l0.length c0, .slice A1 l1.length c1] w fun e w' => ∃ v0_ v1_ : Value, e = .returned (.tuple #[v0_, v1_, .bool r3]) ∧ Kd.R (Kd.int .u64) 61 w' w.heap.size (fun k_ => some k_ ≠ (v1_ : Value).ownBlock) v0_ r1 ∧ Kd.R (Kd.int .u64) 61 w' w.heap.size (fun k_ => some k_ ≠ (v0_ : Value).ownBlock) v1_ r2 ∧ Below w.heap.size w w' := by
  subst e1 e2 e3
  have HZ := Aside0.mk hz
  have HC := Aside0.mk hcm
  have HL := Aside0.mk hc
  clear hz hcm hc
  have HR1 := Aside0.mk hr1
  have HN0 := Aside0.mk h0
  have HN1 := Aside0.mk h1
  clear hr1 h0 h1
  go_enter Try.func38, Try.ntmps38
  go_wp2_with fail
  refine (ybr.calls k _ _ l0 a w hr0 hc0 HN0.out).mono ?_
  rintro e wa ⟨va, rfl, hoa, hba⟩
  obtain ⟨Aa, ca, rfl⟩ := Kd.ybc hoa
  have HB1 := Aside0.mk hba
  have HA1 := Aside0.mk hoa
  clear hoa hba hr0 hc0
  go_wp2_with fail
  refine (ybr.calls k _ _ l1 b wa (Kd.ybg HR1.out HB1.out) hc1 HN1.out).mono ?_
  rintro e wb ⟨vb, rfl, hob, hbb⟩
  obtain ⟨Ab, cb, rfl⟩ := Kd.ybc hob
  have HB := Aside0.mk (yai HB1.out hbb)
  have HA := Aside0.mk (Kd.ycc HA1.out hbb)
  have HBb := Aside0.mk (yhv HB1.out hob)
  clear hob hbb HB1 HA1 hc1
  have hz : ((b.length : Int) == 0) = false := beq_eq_false_iff_ne.mpr (by have := HZ.out; omega)
  have hz2 : (b.length == 0) = false := beq_eq_false_iff_ne.mpr (by have := HZ.out; omega)
  have hz3 : ¬ b = [] := fun h => HZ.out (by rw [h]; exact Nat.zero_le _)
  go_wp2_with fail
  refine (yco.calls k _ _ a _ _ b c wb (Kd.R_reads' HA.out).2.2 (Kd.R_reads' HA.out).2.1 (Kd.R_reads' HBb.out).2.2 (Kd.R_reads' HBb.out).2.1 HC.out).mono ?_
  rintro e wc ⟨rfl, hbc⟩
  have HB2 := Aside0.mk (yai HB.out hbc)
  have HA2 := Aside0.mk (Kd.ycc HA.out hbc)
  clear hbc HB HA HBb
  have hl : decide (c < 0) = true := decide_eq_true HL.out
  go_wp2
  go_ret3
  exact ⟨_, _, rfl, Kd.yfv _ _ _ _ _, row_ok HA2.out (fun k_ _ => by simp [Value.ownBlock]), HB2.out⟩
set_option maxHeartbeats 4000000 in
set_option maxRecDepth 100000 in
theorem ydj.gen (k : Nat) (A0 : Option Addr) (c0 : Nat) (l0 : List Int) (A1 : Option Addr) (c1 : Nat) (l1 : List Int) (r1 : List Int) (r2 : List Int) (r3 : Bool) (w : World) (hr0 : Kd.C (Kd.int .u64) w A0 l0.length l0) (hc0 : l0.length ≤ c0) (hr1 : Kd.C (Kd.int .u64) w A1 l1.length l1) (hc1 : l1.length ≤ c1) (a b V S Uf qf : List Int) (c by_ : Int) (h0 : ybr.f k l0 = some a) (h1 : ybr.f k l1 = some b) (hz : ¬ b.length ≤ 1) (hcm : yco.f k a b = some c) (hc : ¬ c < 0) (hab : a.length < 1073741824 ∧ b.length ≤ a.length)
    (hlz : bits_LeadingZeros64.f (rd b ((b.length : Int) - 1)) = some by_) (hV : yav.f k b (wrap64 (-by_)) = some V) (hS : yav.f k a (wrap64 (-by_)) = some S) (hVS : V.length ≤ b.length ∧ a.length + 1 ≤ S.length + 2 ∧ S.length < 1073741824)
    (hm : ydj.many k V b.length (a.length - b.length + 1) ((S ++ [0, 0]).take (a.length + 1)) (List.replicate (a.length - b.length + 1) 0) = some (Uf, qf)) (hq : ybr.f k qf = some r1) (hr : yav.f k Uf by_ = some r2) (e3 : r3 = true) :
    Calls Try.prog 38 #[.slice A0 l0.length c0, .slice A1 l1.length c1] w fun e w' => ∃ v0_ v1_ : Value, e = .returned (.tuple #[v0_, v1_, .bool r3]) ∧ Kd.R (Kd.int .u64) 61 w' w.heap.size (fun k_ => some k_ ≠ (v1_ : Value).ownBlock) v0_ r1 ∧ Kd.R (Kd.int .u64) 61 w' w.heap.size (fun k_ => some k_ ≠ (v0_ : Value).ownBlock) v1_ r2 ∧ Below w.heap.size w w' := by
  subst e3
  have HZ := Aside0.mk hz
  have HC := Aside0.mk hcm
  have HL := Aside0.mk hc
  have HLZ := Aside0.mk hlz
  have HSV := Aside0.mk hV
  have HSS := Aside0.mk hS
  have HM := Aside0.mk hm
  have HQ := Aside0.mk hq
  have HRr := Aside0.mk hr
  have HVS := Aside0.mk hVS
  have HAB := Aside0.mk hab
  clear hz hcm hc hlz hV hS hm hq hr hVS hab
  have HR1 := Aside0.mk hr1
  have HN0 := Aside0.mk h0
  have HN1 := Aside0.mk h1
  clear hr1 h0 h1
  go_enter Try.func38, Try.ntmps38
  go_wp2_with fail
  refine (ybr.calls k _ _ l0 a w hr0 hc0 HN0.out).mono ?_
  rintro e wa ⟨va, rfl, hoa, hba⟩
  obtain ⟨Aa, ca, rfl⟩ := Kd.ybc hoa
  have HB1 := Aside0.mk hba
  have HA1 := Aside0.mk hoa
  clear hoa hba hr0 hc0
  go_wp2_with fail
  refine (ybr.calls k _ _ l1 b wa (Kd.ybg HR1.out HB1.out) hc1 HN1.out).mono ?_
  rintro e wb ⟨vb, rfl, hob, hbb⟩
  obtain ⟨Ab, cb, rfl⟩ := Kd.ybc hob
  have HB := Aside0.mk (yai HB1.out hbb)
  have HA := Aside0.mk (Kd.ycc HA1.out hbb)
  have HBb := Aside0.mk (yhv HB1.out hob)
  clear hob hbb HB1 HA1 hc1
  have hz : ((b.length : Int) == 0) = false := beq_eq_false_iff_ne.mpr (by have := HZ.out; omega)
  have hz2 : (b.length == 0) = false := beq_eq_false_iff_ne.mpr (by have := HZ.out; omega)
  have hz3 : ¬ b = [] := fun h => HZ.out (by rw [h]; exact Nat.zero_le _)
  have hz4 : ((b.length : Int) == 1) = false := beq_eq_false_iff_ne.mpr (by have := HZ.out; omega)
  have hz5 : (b.length == 1) = false := beq_eq_false_iff_ne.mpr (by have := HZ.out; omega)
  have hb2 : 2 ≤ b.length := by have := HZ.out; omega
  have ha3 : a.length < 1073741824 := HAB.out.1
  have hba : b.length ≤ a.length := HAB.out.2
  go_wp2_with fail
  refine (yco.calls k _ _ a _ _ b c wb (Kd.R_reads' HA.out).2.2 (Kd.R_reads' HA.out).2.1 (Kd.R_reads' HBb.out).2.2 (Kd.R_reads' HBb.out).2.1 HC.out).mono ?_
  rintro e wc ⟨rfl, hbc⟩
  have HB2 := Aside0.mk (yai HB.out hbc)
  have HA2 := Aside0.mk (Kd.ycc HA.out hbc)
  have HBb2 := Aside0.mk (Kd.ycc HBb.out hbc)
  clear hbc HB HA HBb
  have hl : decide (c < 0) = false := decide_eq_false (by have := HL.out; omega)
  have HLZ' := HLZ.out
  obtain ⟨ji, hji⟩ : ∃ ji : Int, (b.length : Int) - 1 = ji := ⟨_, rfl⟩
  rw [hji] at HLZ'
  have hji0 : 0 ≤ ji := by omega
  have hji1 : ji < (b.length : Int) := by omega
  obtain ⟨ad, e1, hx⟩ := Kd.ybs (Kd.R_reads' HBb2.out).2.2 ji hji0 hji1
  subst e1
  have HLZ2 := Aside0.mk HLZ'
  clear HLZ HLZ'
  go_wp2_with fail
  refine (bits_LeadingZeros64.calls _ by_ _ HLZ2.out).mono ?_
  rintro e w' ⟨rfl, ⟨nd, rfl⟩⟩
  clear hx hji hji0 hji1
  go_wp2_with fail
  refine (yav.calls k _ _ b (wrap64 (-by_)) V _ (Kd.yaw (Kd.R_reads' HBb2.out).2.2 nd) (Kd.R_reads' HBb2.out).2.1 HSV.out).mono ?_
  rintro e wd ⟨vV, rfl, hoV, hbV⟩
  obtain ⟨AV, cV, rfl⟩ := Kd.ybc hoV
  have HB3 := Aside0.mk (yai (yab HB2.out nd) hbV)
  have HA3 := Aside0.mk (Kd.ycc (Kd.yaz HA2.out nd) hbV)
  have HV3 := Aside0.mk (yhv (yab HB2.out nd) hoV)
  clear hoV hbV HB2 HA2 HBb2
  go_wp2_with fail
  refine (yav.calls k _ _ a (wrap64 (-by_)) S _ (Kd.R_reads' HA3.out).2.2 (Kd.R_reads' HA3.out).2.1 HSS.out).mono ?_
  rintro e we ⟨vS, rfl, hoS, hbS⟩
  obtain ⟨AS, cS, rfl⟩ := Kd.ybc hoS
  have HSb := Aside0.mk (Kd.ycf hoS)
  have HVl := Aside0.mk (Kd.R_lt HV3.out)
  have HB4 := Aside0.mk (yai HB3.out hbS)
  have HV4 := Aside0.mk (Kd.ycc HV3.out hbS)
  have HS4 := Aside0.mk (yhv HB3.out hoS)
  have HDE := Aside0.mk hbS.size
  clear hoS hbS HB3 HA3 HV3
  go_wp2_with (first
    | ((with_reducible refine ycl (b := .append) (xs := #[.tmp 75, .tmp 76]) rfl ?_); at_builtin; refine Kd.yeh (Kd.int .u64) (w0 := w) w.heap.size rfl (.tmp 75) (.tmp 76) 23 61 (.int .u64 0) 8 rfl Try.underlying23 ygd rfl (by decide) (by omega) (.slice AS S.length cS) S [0, 0] (some ⟨we.heap.size, 0, none⟩) 2 2 (fun _ => True) (fun _ => False) rfl rfl ?aO ?aR (fun _ _ h => h) (fun _ h => h.elim) (fun _ _ => trivial) ?aB ?aS ?aL ?_; (case aO => exact Kd.yba HS4.out _); (case aR => exact lit2 we 61); (case aB => exact yad HB4.out _); (case aS => have := HB4.out.size; simp; omega); (case aL => have := HVS.out.2.2; omega); intro v1 w1 ho hb hg hat; have HO1 := Aside0.mk ho; have HB5 := Aside0.mk hb; have HG1 := Aside0.mk hg; have HAT := Aside0.mk hat; clear ho hb hg hat; obtain ⟨g, cap, hv1, hgb⟩ := div_own2 HO1.out HAT.out (fun k hk => Nat.le_trans (Nat.le_refl _) (HSb.out k hk)) (by have := HDE.out; simp; omega); subst hv1; have HGB := Aside0.mk hgb; clear hgb HAT; have hcut := cut_to (P := Try.prog) 23 61 .i64 Try.underlying23 (info_parts ygd).choose_spec.1 (some ⟨g, 0, none⟩) (S.length + 2) cap ((a.length : Int) + 1) (by omega) (by have := HVS.out.2.1; omega) (by have := (Kd.R_reads' HO1.out).2.1; simpa using this); rw [show ((a.length : Int) + 1).toNat = a.length + 1 from by omega] at hcut; have HU := Aside0.mk (show Kd.R (Kd.int .u64) 61 w1 w.heap.size (fun _ => True) (.slice (some ⟨g, 0, none⟩) (a.length + 1) cap) ((S ++ [0, 0]).take (a.length + 1)) from Kd.R_take HO1.out (by have := HVS.out.2.1; simp; omega)); have HV5 := Aside0.mk (yen (Kd.yba HV4.out _) HG1.out (fun k hk he => by have := HVl.out k hk; have := HSb.out k he.symm; omega)); have HVg := Aside0.mk (show ∀ k, (.slice AV V.length cV : Value).ownBlock = some k → k ≠ g from fun k hk he => by have := HVl.out k hk; have := HGB.out; omega); clear HO1 HG1 HV4 HS4 HB4 HSb HVl HGB HDE; obtain ⟨Q, hQ⟩ : ∃ Q : Nat, Q = a.length - b.length + 1 := ⟨_, rfl⟩; have hQn : ((a.length : Int) - (b.length : Int) + 1) = (Q : Int) := (by omega); have hQ1 : 1 ≤ Q := (by omega); have hQ2 : Q < 1073741825 := (by omega); have hQ3 : Q + b.length = a.length + 1 := (by omega); have HQ3 := Aside0.mk hQ3; have HM2 := HM.out; rw [← hQ] at HM2; have HM3 := Aside0.mk HM2; clear HM HM2 hQ hQ3)
    | ((with_reducible refine ybu (N := 87) rfl ?_); refine Kd.yhb (Kd.int .u64) (w0 := w) w.heap.size 61 rfl (N := 87) rfl 23 _ _ rfl (Q : Int) rfl rfl Try.underlying23 (.int .u64 0) 8 ygd rfl (by decide) (by omega) 0 (ok := fun _ => True) (okp := fun _ => True) rfl (fun _ hk => hk) trivial (by omega) (by omega) HB5.out HB5.out.size ?_; intro v2 w2 ho hb hg hnew; rw [Int.toNat_natCast] at ho; have HO2 := Aside0.mk ho; have HB6 := Aside0.mk hb; have HG2 := Aside0.mk hg; have HNW := Aside0.mk hnew; clear ho hb hg hnew; obtain ⟨gq, capq, hv2, hgq⟩ := div_own1 hQ1 HO2.out HNW.out; subst hv2; have HGQ := Aside0.mk hgq; clear hgq HNW))
  have HU6 := Aside0.mk (yen HU.out HG2.out (fun _ _ h => by cases h))
  have HV6 := Aside0.mk (yen HV5.out HG2.out (fun _ _ h => by cases h))
  have HGG := Aside0.mk (show g ≠ gq from fun he => by have h1 := Kd.R_lt HU.out g rfl; have := HGQ.out; omega)
  have HVQ := Aside0.mk (show ∀ k, (.slice AV V.length cV : Value).ownBlock = some k → k ≠ gq from fun k hk he => by have h1 := Kd.R_lt HV5.out k hk; have := HGQ.out; omega)
  clear HU HV5 HG2 HB5 HGQ
  go_loopw [13] (fun v13 w' => ∃ (i : Nat) (U' q' : List Int) (z : Int), v13 = .int .i64 z ∧ Aside0 (z = (i : Int) - 1) ∧ Aside0 (i ≤ Q) ∧ Aside0 (ydj.many k V b.length i U' q' = some (Uf, qf)) ∧
    Aside0 (Kd.R (Kd.int .u64) 61 w' w.heap.size (fun _ => True) (.slice (some ⟨g, 0, none⟩) (a.length + 1) cap) U') ∧ Aside0 (Kd.R (Kd.int .u64) 61 w' w.heap.size (fun _ => True) (.slice (some ⟨gq, 0, none⟩) Q capq) q') ∧
    Aside0 (Kd.R (Kd.int .u64) 61 w' w.heap.size (fun _ => True) (.slice AV V.length cV) V) ∧ Aside0 (Below w.heap.size w w')) (fun v13 _ => (intOf v13 + 1).toNat)
  case atStart => exact ⟨Q, _, _, _, rfl, ⟨rfl⟩, ⟨Nat.le_refl _⟩, HM3, HU6, HO2, HV6, HB6⟩
  case round =>
    clear HU6 HO2 HV6 HB6
    obtain ⟨i, U', q', z, rfl, HZ1, HI, HA, HUr, HQr, HVr, HBr⟩ := hrel
    cases i with
    | zero =>
      have hz1 : z = -1 := by have := HZ1.out; omega
      subst hz1
      have h := HA.out
      simp only [ydj.many, Option.some.injEq, Prod.mk.injEq] at h
      obtain ⟨rfl, rfl⟩ := h
      have hUl := (Kd.R_reads' HUr.out).1
      have hQl := (Kd.R_reads' HQr.out).1
      have HUl := Aside0.mk hUl
      have HQl := Aside0.mk hQl
      clear hUl hQl HA
      go_wp2_with fail
      refine (nnorm k _ _ _ q' r1 wr HQl.out (Kd.R_reads' HQr.out).2.2 (by rw [← HQl.out]; exact (Kd.R_reads' HQr.out).2.1) HQ.out).mono ?_
      rintro e w4 ⟨v4, rfl, ho4, hb4⟩
      have HB7 := Aside0.mk (yai HBr.out hb4)
      have HO4 := Aside0.mk (yhv HBr.out ho4)
      have HU7 := Aside0.mk (Kd.ycc HUr.out hb4)
      clear ho4 hb4
      go_wp2_with fail
      refine (nshift k _ _ _ U' by_ r2 w4 HUl.out (Kd.R_reads' HU7.out).2.2 (by rw [← HUl.out]; exact (Kd.R_reads' HU7.out).2.1) HRr.out).mono ?_
      rintro e w5 ⟨v5, rfl, ho5, hb5⟩
      have HB8 := Aside0.mk (yai HB7.out hb5)
      have HO5 := Aside0.mk (yhv HB7.out ho5)
      have HO6 := Aside0.mk (Kd.ycc HO4.out hb5)
      have HN5 := Aside0.mk (show ∀ k, v4.ownBlock = some k → some k ≠ v5.ownBlock from fun k hk he => by have h1 := Kd.R_lt HO4.out k hk; have h2 := Kd.ycf ho5 k he.symm; omega)
      clear ho5 hb5
      go_wp2
      go_ret3
      exact ⟨_, _, rfl, row_ok HO6.out (fun k hk => HN5.out k hk), row_ok HO5.out (fun k hk he => HN5.out k he.symm hk.symm), HB8.out⟩
    | succ i =>
      have hz1 : z = (i : Int) := by have := HZ1.out; omega
      subst hz1
      have h := HA.out
      simp only [ydj.many] at h
      obtain ⟨x, hg, h⟩ := Option.bind_eq_some_iff.mp h
      obtain ⟨⟨ng, U1⟩, ht, h⟩ := Option.bind_eq_some_iff.mp h
      have HG := Aside0.mk hg
      have HT := Aside0.mk ht
      have HH := Aside0.mk h
      have hUl := (Kd.R_reads' HUr.out).1
      have hUc := (Kd.R_reads' HUr.out).2.1
      have HUl := Aside0.mk hUl
      have hiQ : i < Q := by have := HI.out; omega
      have him : i + (b.length + 1) ≤ a.length + 1 := by have := HQ3.out; omega
      have hcut2 := part_cut (g := g) i (b.length + 1) him (by omega) hUc (i : Int) ((i : Int) + (b.length : Int) + 1) rfl (by omega)
      have HCUT := Aside0.mk hUc
      have HIM := Aside0.mk him
      have HIQ := Aside0.mk hiQ
      clear hg ht h hUl hUc HA
      go_wp2_with fail
      obtain ⟨hp1, hp2, hp3⟩ := part_read HUr.out i (b.length + 1) HIM.out (by omega)
      refine (nguess k _ _ _ ((U'.take (i + (b.length + 1))).drop i) _ _ V x wr hp2.symm hp1 (by rw [hp2]; exact hp3) (Kd.R_reads' HVr.out).2.2 (Kd.R_reads' HVr.out).2.1 HG.out).mono ?_
      rintro e w' ⟨rfl, ⟨nd2, rfl⟩⟩
      clear hp1 hp2 hp3
      go_wp2_with fail
      refine (yio.sub x U' g i (b.length + 1) (cap - i) cap AV cV V (fun _ => True) ng U1 w (wr.drewN nd2) (yab HBr.out nd2) (by rw [← HUl.out]; exact Kd.yaz HUr.out nd2) (by rw [← HUl.out]; exact HIM.out) (by have := HVS.out.1; omega) (by omega) (fun W' hg' => (Kd.R_reads' (yen (Kd.yaz HVr.out nd2) hg' (fun k hk he => HVg.out k hk (by injection he)))).2.2) HT.out).mono ?_
      rintro e w6 ⟨rfl, ho6, hb6, hg6⟩
      rw [← HUl.out] at ho6
      have HU7 := Aside0.mk ho6
      have HB7 := Aside0.mk hb6
      have HQ7 := Aside0.mk (yen (Kd.yaz HQr.out nd2) hg6 (blk_ne HGG.out))
      have HV7 := Aside0.mk (yen (Kd.yaz HVr.out nd2) hg6 (fun k hk he => HVg.out k hk (by injection he)))
      clear ho6 hb6 hg6 HUr HBr HQr HVr
      cases ng with
      | true =>
        have h := HH.out
        simp only [if_true] at h
        obtain ⟨U2, hbk, h⟩ := Option.bind_eq_some_iff.mp h
        have HBK := Aside0.mk hbk
        have HH2 := Aside0.mk h
        have HU1l := Aside0.mk (Kd.R_reads' HU7.out).1
        clear h hbk HH
        go_wp2_with fail
        refine (yhy.sub U1 g i (b.length + 1) (cap - i) cap AV cV V (fun _ => True) U2 w w6 HB7.out (by rw [← HU1l.out]; exact HU7.out) (by rw [← HU1l.out]; exact HIM.out) (by have := HVS.out.1; omega) (by omega) (fun W' hg' => (Kd.R_reads' (yen HV7.out hg' (fun k hk he => HVg.out k hk (by injection he)))).2.2) HBK.out).mono ?_
        rintro e w8 ⟨rfl, ho8, hb8, hg8⟩
        rw [← HU1l.out] at ho8
        have HU9 := Aside0.mk ho8
        have HB9 := Aside0.mk hb8
        have HQ9 := Aside0.mk (yen HQ7.out hg8 (blk_ne HGG.out))
        have HV9 := Aside0.mk (yen HV7.out hg8 (fun k hk he => HVg.out k hk (by injection he)))
        clear ho8 hb8 hg8 HU7 HB7 HQ7 HV7
        obtain ⟨hc, hf⟩ := ygv HQ9.out i HIQ.out
        have hp := yhc HQ9.out i (IntKind.u64.wrap (x - 1))
        have HP := Aside0.mk hp
        clear hp
        go_wp2
        go_roundw
        case rel => exact ⟨i, U2, _, _, rfl, ⟨by omega⟩, ⟨by have := HIQ.out; omega⟩, HH2, ⟨yen HU9.out HP.out.2 (blk_ne (Ne.symm HGG.out))⟩, ⟨HP.out.1⟩, ⟨yen HV9.out HP.out.2 (fun k hk he => HVQ.out k hk (by injection he))⟩, ⟨HB9.out.grown HP.out.2 HB9.out.size (fun k hk => by injection hk with hk; subst hk; exact Kd.ycf HQ9.out _ rfl)⟩⟩
        case measure => simp [intOf]
      | false =>
        have HH2 := Aside0.mk (show ydj.many k V b.length i U1 (q'.set i x) = some (Uf, qf) from HH.out)
        clear HH
        obtain ⟨hc, hf⟩ := ygv HQ7.out i HIQ.out
        have hp := yhc HQ7.out i x
        have HP := Aside0.mk hp
        clear hp
        go_wp2
        go_roundw
        case rel => exact ⟨i, U1, _, _, rfl, ⟨by omega⟩, ⟨by have := HIQ.out; omega⟩, HH2, ⟨yen HU7.out HP.out.2 (blk_ne (Ne.symm HGG.out))⟩, ⟨HP.out.1⟩, ⟨yen HV7.out HP.out.2 (fun k hk he => HVQ.out k hk (by injection he))⟩, ⟨HB7.out.grown HP.out.2 HB7.out.size (fun k hk => by injection hk with hk; subst hk; exact Kd.ycf HQ7.out _ rfl)⟩⟩
        case measure => simp [intOf]
theorem ydj.calls (k : Nat) (A0 : Option Addr) (c0 : Nat) (l0 : List Int) (A1 : Option Addr) (c1 : Nat) (l1 : List Int) (r1 : List Int) (r2 : List Int) (r3 : Bool) (w : World) (hr0 : Kd.C (Kd.int .u64) w A0 l0.length l0) (hc0 : l0.length ≤ c0) (hr1 : Kd.C (Kd.int .u64) w A1 l1.length l1) (hc1 : l1.length ≤ c1) (h : ydj.f k l0 l1 = some (r1, r2, r3)) :
    Calls Try.prog 38 #[.slice A0 l0.length c0, .slice A1 l1.length c1] w fun e w' => ∃ v0_ v1_ : Value, e = .returned (.tuple #[v0_, v1_, .bool r3]) ∧ Kd.R (Kd.int .u64) 61 w' w.heap.size (fun k_ => some k_ ≠ (v1_ : Value).ownBlock) v0_ r1 ∧ Kd.R (Kd.int .u64) 61 w' w.heap.size (fun k_ => some k_ ≠ (v0_ : Value).ownBlock) v1_ r2 ∧ Below w.heap.size w w' := by
  unfold ydj.f at h
  obtain ⟨a, h0, h⟩ := Option.bind_eq_some_iff.mp h
  obtain ⟨b, h1, h⟩ := Option.bind_eq_some_iff.mp h
  by_cases hz : b.length ≤ 1
  · rw [if_pos hz] at h
    exact ycy.calls k A0 c0 l0 A1 c1 l1 r1 r2 r3 w hr0 hc0 hr1 hc1 h
  · rw [if_neg hz] at h
    obtain ⟨c, hcm, h⟩ := Option.bind_eq_some_iff.mp h
    by_cases hc : c < 0
    · rw [if_pos hc] at h
      simp only [Option.some.injEq, Prod.mk.injEq] at h
      exact ydj.less k A0 c0 l0 A1 c1 l1 r1 r2 r3 w hr0 hc0 hr1 hc1 a b c h0 h1 hz hcm hc h.1.symm h.2.1 h.2.2.symm
    · rw [if_neg hc] at h
      by_cases hab : a.length < 1073741824 ∧ b.length ≤ a.length
      · rw [if_pos hab] at h
        obtain ⟨by_, hlz, h⟩ := Option.bind_eq_some_iff.mp h
        obtain ⟨V, hV, h⟩ := Option.bind_eq_some_iff.mp h
        obtain ⟨S, hS, h⟩ := Option.bind_eq_some_iff.mp h
        by_cases hVS : V.length ≤ b.length ∧ a.length + 1 ≤ S.length + 2 ∧ S.length < 1073741824
        · rw [if_pos hVS] at h
          obtain ⟨⟨Uf, qf⟩, hm, h⟩ := Option.bind_eq_some_iff.mp h
          obtain ⟨q, hq, h⟩ := Option.bind_eq_some_iff.mp h
          obtain ⟨r, hr, h⟩ := Option.bind_eq_some_iff.mp h
          simp only [Option.some.injEq, Prod.mk.injEq] at h
          obtain ⟨rfl, rfl, rfl⟩ := h
          exact ydj.gen k A0 c0 l0 A1 c1 l1 q r true w hr0 hc0 hr1 hc1 a b V S Uf qf c by_ h0 h1 hz hcm hc hab hlz hV hS hVS hm hq hr rfl
        · rw [if_neg hVS] at h
          cases h
      · rw [if_neg hab] at h
        cases h
end Go.Proofs.Ytgnaaaliadiekaa.B
end
