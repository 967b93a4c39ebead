/- A part of the proof (merged by pack.py, a program of this session: what the row's proof names). -/
import Derived.Test.YtgnaaaliadiekaaM4
import Derived.Test.YtgnaaaliadiekaaM13
import Derived.Test.YtgnaaaliadiekaaM14
import Derived.Test.YtgnaaaliadiekaaM33
import Derived.Test.YtgnaaaliadiekaaM0
section
namespace Go.Proofs.Ytgnaaaliadiekaa.B
open Go.RowKit Go.Proofs.YtgnaaaliadiekaaW.PrintWords Go.Proofs.YtgnaaaliadiekaaW.PrintLast Go.Proofs.YtgnaaaliadiekaaW.PrintMore
attribute [local go_sem] ycj ych ycs ycr ybw ybv yci ycg   -- for this text's walks alone
attribute [local go_sem] yca ybn ybz ybm
set_option linter.unusedVariables false
set_option linter.unusedSimpArgs false
open Go.Shelf
attribute [local go_sem] Oper.semAt_some
def yax.step (k : Nat) (a m o : List Int) (b : Bool) : Option (List Int) :=
  (ydw.f k o o m).bind fun t => if b = true then (ydw.f k t.1 a m).bind fun t2 => some t2.1 else some t.1
def yax.fold (k : Nat) (a m : List Int) : List (Int × Bool) → List Int → Option (List Int)
  | [], o => some o
  | x :: xs, o => (yax.step k a m o x.2).bind fun o' => yax.fold k a m xs o'
def yax.both (f : List Int → Bool) : Option (List Int) → Option (List Int) → Bool
  | some o1, some o2 => f o1 && f o2
  | _, _ => false
theorem yax.both_some {f : List Int → Bool} {x y : Option (List Int)} (h : yax.both f x y = true) : ∃ o1 o2, x = some o1 ∧ y = some o2 ∧ f o1 = true ∧ f o2 = true := by
  cases x with
  | none => cases h
  | some o1 =>
    cases y with
    | none => cases h
    | some o2 => exact ⟨o1, o2, rfl, rfl, (Bool.and_eq_true_iff.1 h).1, (Bool.and_eq_true_iff.1 h).2⟩
theorem yax.both_of {f : List Int → Bool} {x y : Option (List Int)} {o1 o2 : List Int} (h1 : x = some o1) (h2 : y = some o2) (g1 : f o1 = true) (g2 : f o2 = true) : yax.both f x y = true := by
  subst h1 h2
  exact Bool.and_eq_true_iff.2 ⟨g1, g2⟩
def yax.ok (k : Nat) (a m : List Int) : Nat → List Int → Bool
  | 0, _ => true
  | d + 1, o => yax.both (yax.ok k a m d) (yax.step k a m o false) (yax.step k a m o true)
theorem yax.ok_step {k : Nat} {a m o : List Int} {d : Nat} (h : yax.ok k a m (d + 1) o = true) (b : Bool) : ∃ o', yax.step k a m o b = some o' ∧ yax.ok k a m d o' = true := by
  obtain ⟨o1, o2, e1, e2, g1, g2⟩ := yax.both_some h
  cases b with
  | false => exact ⟨o1, e1, g1⟩
  | true => exact ⟨o2, e2, g2⟩
theorem yax.ok_of {k : Nat} {a m : List Int} (G : List Int → Prop) (hc : ∀ o b, G o → ∃ o', yax.step k a m o b = some o' ∧ G o') : ∀ d o, G o → yax.ok k a m d o = true
  | 0, _, _ => rfl
  | d + 1, o, h => by
    obtain ⟨o1, e1, g1⟩ := hc o false h
    obtain ⟨o2, e2, g2⟩ := hc o true h
    exact yax.both_of e1 e2 (yax.ok_of G hc d o1 g1) (yax.ok_of G hc d o2 g2)
def yax.rounds (k : Nat) (a m o zs : List Int) (L : Int) : Option (List Int) :=
  if zs.length < 1099511627776 ∧ 0 ≤ L ∧ L ≤ 64 * zs.length ∧ yax.ok k a m L.toNat o = true then yax.fold k a m (upto (bitsOf zs L.toNat) L.toNat) o else none
def yax.f (k : Nat) (l0 l1 l2 : List Int) : Option (List Int × Int) :=
  (yds.f k l0 l2).bind fun t => if t.2 = 0 then (yfi.f k 1).bind fun t1 => (yds.f k t1 l2).bind fun t2 => (ydm.f k l1).bind fun L => (yax.rounds k t.1 l2 t2.1 l1 L).bind fun r => some (r, 0) else some ([], t.2)
theorem yax.fold_snoc (k : Nat) (a m : List Int) : ∀ (xs : List (Int × Bool)) (x : Int × Bool) (o o1 o2 : List Int), yax.fold k a m xs o = some o1 → yax.step k a m o1 x.2 = some o2 → yax.fold k a m (xs ++ [x]) o = some o2
  | [], x, o, o1, o2, h1, h2 => by
    injection h1 with h1
    subst h1
    show (yax.step k a m o x.2).bind _ = _
    rw [h2]
    rfl
  | y :: xs, x, o, o1, o2, h1, h2 => by
    obtain ⟨o', e, h1⟩ := Option.bind_eq_some_iff.mp h1
    show (yax.step k a m o y.2).bind _ = _
    rw [e]
    exact yax.fold_snoc k a m xs x o' o1 o2 h1 h2
def PowSt (w : World) (b9 : Nat) (Aa : Option Addr) (ca : Nat) (ta : List Int) (A2 : Option Addr) (c2 : Nat) (l2 : List Int) (W : World) (o : List Int) : Prop :=
  ∃ Ar cr, Boxed W b9 23 (.slice Ar o.length cr) ∧ Kd.R (Kd.int .u64) 61 W w.heap.size (fun _ => True) (.slice Ar o.length cr) o ∧ Boxed W w.heap.size 23 (.slice Aa ta.length ca) ∧
    Kd.R (Kd.int .u64) 61 W w.heap.size (fun _ => True) (.slice Aa ta.length ca) ta ∧ Boxed W (w.heap.size + 1) 23 (.slice A2 l2.length c2) ∧ Below w.heap.size w W ∧ w.heap.size + 2 ≤ b9
theorem PowSt.put {w wr : World} {b9 : Nat} {Aa A2 Ar : Option Addr} {ca c2 cr : Nat} {ta l2 o : List Int} {u : Value} (k9 : Boxed wr b9 23 u) (k3 : Boxed wr w.heap.size 23 (.slice Aa ta.length ca)) (k5 : Boxed wr (w.heap.size + 1) 23 (.slice A2 l2.length c2))
    (kB : Below w.heap.size w wr) (ra : Kd.R (Kd.int .u64) 61 wr w.heap.size (fun _ => True) (.slice Aa ta.length ca) ta) (ro : Kd.R (Kd.int .u64) 61 wr w.heap.size (fun _ => True) (.slice Ar o.length cr) o) (hb : w.heap.size + 2 ≤ b9) :
    PowSt w b9 Aa ca ta A2 c2 l2 (wr.setCell ⟨b9, 0, none⟩ (.slice Ar o.length cr)) o :=
  ⟨Ar, cr, k9.set _, own_set k9 ro, k3.other (by omega) _, own_set k9 ra, k5.other (by omega) _, kB.setCell (by show w.heap.size ≤ b9; omega) _, hb⟩
theorem PowSt.own {w : World} {b9 : Nat} {Aa A2 : Option Addr} {ca c2 : Nat} {ta l2 o : List Int} {B : Nat} (hB : w.heap.size ≤ B) {W W' : World} {row : Option Nat} (h : PowSt w b9 Aa ca ta A2 c2 l2 W o) (hg : W.grownBy W' row) (hr : ∀ r, row = some r → B ≤ r ∧ ∃ o : Obj, W.heap[r]? = some o ∧ o.isCells = false) : PowSt w b9 Aa ca ta A2 c2 l2 W' o := by
  obtain ⟨Ar, cr, h1, h2, h3, h4, h5, h6, h7⟩ := h
  have box : ∀ {b : Nat} {t : TypeId} {v : Value}, Boxed W b t v → Boxed W' b t v := by
    intro b t v hb
    refine hb.kept hg (fun e => ?_)
    obtain ⟨_, o, e1, e2⟩ := hr b e.symm
    have e3 : W.heap[b]? = some (.cells #[v] t (0, 0)) := hb
    rw [e3] at e1
    injection e1 with e1
    subst e1
    cases e2
  exact ⟨Ar, cr, box h1, yhw h2 hg (fun r e => (hr r e).2), box h3, yhw h4 hg (fun r e => (hr r e).2), box h5, h6.grown hg h6.size (fun k e => Nat.le_trans hB (hr k e).1), h7⟩
set_option maxRecDepth 100000 in
set_option maxHeartbeats 4000000 in
theorem yax.tail_wp (ca0 ca1 ca2 ca3 ca4 : Code) (hcode : Try.f64.body = some (.seq ca0 (.seq ca1 (.seq ca2 (.seq ca3 ca4))))) (k : Nat) (w Wf : World) (A1 A2 Aa : Option Addr) (c1 c2 ca b9 Ln : Nat) (l1 l2 ta t2 rr : List Int) (u0 u10 u13 u14 u15 u16 u17 u18 u19 u20 u22 u23 u24 u25 u26 u27 : Value)
    (hc1 : l1.length ≤ c1) (hc2 : l2.length ≤ c2) (HR1 : Aside0 (Kd.C (Kd.int .u64) w A1 l1.length l1)) (HR2 : Aside0 (Kd.C (Kd.int .u64) w A2 l2.length l2)) (hlen : l1.length < 1099511627776) (HL : Aside0 (ydm.f k l1 = some (Ln : Int))) (hLz : (Ln : Int) ≤ 64 * l1.length)
    (HOK : Aside0 (yax.ok k ta l2 Ln t2 = true)) (HRR : Aside0 (yax.fold k ta l2 (upto (bitsOf l1 Ln) Ln) t2 = some rr)) (hSt : PowSt w b9 Aa ca ta A2 c2 l2 Wf t2) :
    ca4.wp Try.prog (noPanic (bodyPostM Fence.wide 10 Try.prog Try.f64 fun e w' => ∃ v0_ : Value, e = .returned (.tuple #[v0_, .int .i64 0]) ∧ Kd.R (Kd.int .u64) 61 w' w.heap.size (fun _ => True) v0_ rr ∧ Below w.heap.size w w'))
      { tmps := #[u0, .slice A1 l1.length c1, .slice A2 l2.length c2, .pointer (some ⟨w.heap.size, 0, none⟩), undef, .pointer (some ⟨w.heap.size + 1, 0, none⟩), .slice none 0 0, .int .i64 0, .int .i64 0, .pointer (some ⟨b9, 0, none⟩), u10, undef, undef, u13, u14, u15, u16, u17, u18, u19, u20, undef, u22, u23, u24, u25, u26, u27, undef, undef, undef, undef, undef, undef, undef, undef, undef, undef, undef, undef, undef, undef, undef, undef, undef, undef, undef, undef], defers := [] } Wf := by
  have hBf : Below w.heap.size w Wf := by obtain ⟨_, _, _, _, _, _, _, h, _⟩ := hSt; exact h
  have hsf := hBf.size
  have hb9 : b9 < Wf.heap.size := by obtain ⟨_, _, h, _⟩ := hSt; exact h.lt
  dsimp only [Try.f64] at hcode
  injection hcode with hcode
  injection hcode with hx hcode
  clear hx
  injection hcode with hx hcode
  clear hx
  injection hcode with hx hcode
  clear hx
  injection hcode with hx hcode
  clear hx
  subst hcode
  go_wp2_with (go_at_call 13; refine (Bits_in A1 l1.length c1 _).mono ?_; rintro e wb ⟨rfl, rfl⟩)
  have hbox := (Boxed.new Wf 23 (.slice A1 l1.length c1)).cell
  refine (wpIn_wide (n := 10)).1 ?_
  refine wpIn_rangeFunc_ownF rfl (by decide) (gf := 44) (lb := #[.pointer (some ⟨Wf.heap.size, 0, none⟩)]) rfl trivial (enters_of Try.func44 (by kernel_rfl) rfl)
    (Bits_stops 9 (by decide) Wf.heap.size w.heap.size A1 c1 l1 Ln k hlen HL.out (by omega) (Wf.alloc (.cells #[.slice A1 l1.length c1] 23)) (by simp; omega) (by simp) hbox hc1 (fun W' h => Kd.ybg HR1.out ((hBf.alloc hsf _).trans h.1)))
    KB.trans (KB.put (by simp; omega) (by simp)) (Below.refl _ _) (fun _ => rfl)
    (fun pre W => (∃ o, yax.fold k ta l2 pre t2 = some o ∧ yax.ok k ta l2 (Ln - pre.length) o = true ∧ PowSt w b9 Aa ca ta A2 c2 l2 W o) ∧ Wf.heap.size + 1 ≤ W.heap.size)
    (fun _ _ _ => False)
    (fun s A B row hs hg hr => ⟨by obtain ⟨o, h1, h2, h3⟩ := hs.1; exact ⟨o, h1, h2, h3.own (by simp; omega) hg hr⟩, Nat.le_trans hs.2 hg.size⟩)
    (fun _ _ _ _ _ hs _ _ => hs)
    ⟨⟨t2, rfl, HOK.out, hSt.own (B := w.heap.size) (Nat.le_refl _) (World.grownBy_alloc Wf _ none) (fun r e => by cases e)⟩, by simp⟩
    (fun x => { tmps := #[u0, .slice A1 l1.length c1, .slice A2 l2.length c2, .pointer (some ⟨w.heap.size, 0, none⟩), undef, .pointer (some ⟨w.heap.size + 1, 0, none⟩), .slice none 0 0, .int .i64 0, .int .i64 0, .pointer (some ⟨b9, 0, none⟩), u10, undef, .bool x.2, u13, u14, u15, u16, u17, u18, u19, u20, undef, u22, u23, u24, u25, u26, u27, .slice A1 l1.length c1, .func (.func 44) #[] #[.pointer (some ⟨Wf.heap.size, 0, none⟩)], .int .i64 x.1, .bool x.2, undef, undef, undef, undef, undef, undef, undef, undef, undef, undef, undef, undef, undef, undef, undef, undef], defers := [] })
    ?assign ?body ?done ?stop
  case assign =>
    intro l x W K hK
    gi_wp2
    exact hK
  case body =>
    rintro l pre x W ⟨⟨o, hf, hok, Ar, cr, hB9, hRo, hB3, hRa, hB5, hBW, hb9'⟩, hsW⟩ hlt
    obtain ⟨d, hd⟩ : ∃ d, Ln - pre.length = d + 1 := ⟨Ln - pre.length - 1, by omega⟩
    rw [hd] at hok
    obtain ⟨o', hs, hok'⟩ := yax.ok_step hok x.2
    have hfold := yax.fold_snoc k ta l2 pre x t2 o o' hf hs
    have hlen' : Ln - (pre ++ [x]).length = d := by simp; omega
    obtain ⟨xi, xb⟩ := x
    unfold yax.step at hs
    obtain ⟨⟨m1, em⟩, hm1, hs⟩ := Option.bind_eq_some_iff.mp hs
    have HM1 := Aside0.mk hm1
    clear hm1
    have hc9 := hB9.cell
    have hf9 := hB9.frozen
    have hc5 := hB5.cell
    have hc3 := hB3.cell
    have hlt9 := hB9.lt
    have hlt5 := hB5.lt
    have hlt3 := hB3.lt
    have hsz := hBW.size
    cases xb with
    | false =>
      injection hs with hs
      subst hs
      gi_wp2_with (refine ⟨trivial, ?_⟩; gi_at_call 89; refine (CallsIn.inRound l (callsIn_wide.2 (ydw.calls k _ _ o _ _ o _ _ l2 m1 em W (Kd.R_reads' hRo).2.2 (Kd.R_reads' hRo).2.1 (Kd.R_reads' hRo).2.2 (Kd.R_reads' hRo).2.1 (Kd.ybg HR2.out hBW) hc2 HM1.out))).mono ?_; rintro e wr ⟨vr, rfl, hor, hbr⟩; obtain ⟨Am, cm, rfl⟩ := Kd.ybc hor; have g9 := yei hB9 hbr hlt9; have gc9 := g9.cell; have gf9 := g9.frozen)
      exact ⟨(yhd hbr).trans (KeepsOthers.setCell _ _ _), ⟨(hbr.mono hsz).setCell (by show w.heap.size ≤ b9; omega) _, (Below.heap_setCell _ _ _ _ (by show Wf.heap.size ≠ b9; omega)).trans (hbr.block _ (by omega))⟩, ⟨m1, hfold, by rw [hlen']; exact hok', PowSt.put g9 (yei hB3 hbr hlt3) (yei hB5 hbr hlt5) (hBW.trans (hbr.mono hsz)) (Kd.ycc hRa hbr) (Kd.ybl hor hsz) hb9'⟩, by have := hbr.size; simp; omega⟩
    | true =>
      obtain ⟨⟨m2, em2⟩, hm2, hs⟩ := Option.bind_eq_some_iff.mp (show (ydw.f k m1 ta l2).bind (fun t2 => some t2.1) = some o' from hs)
      injection hs with hs
      subst hs
      have HM2 := Aside0.mk hm2
      clear hm2
      gi_wp2_with (first
        | (refine ⟨trivial, ?_⟩; gi_at_call 89; refine (CallsIn.inRound l (callsIn_wide.2 (ydw.calls k _ _ o _ _ o _ _ l2 m1 em W (Kd.R_reads' hRo).2.2 (Kd.R_reads' hRo).2.1 (Kd.R_reads' hRo).2.2 (Kd.R_reads' hRo).2.1 (Kd.ybg HR2.out hBW) hc2 HM1.out))).mono ?_; clear HM1; rintro e wr ⟨vr, rfl, hor, hbr⟩; obtain ⟨Am, cm, rfl⟩ := Kd.ybc hor; have g9 := yei hB9 hbr hlt9; have gc9 := g9.cell; have gf9 := g9.frozen;
            have s9 := g9.set (.slice Am m1.length cm); have s3 := (yei hB3 hbr hlt3).other (B' := b9) (by omega) (.slice Am m1.length cm); have s5 := (yei hB5 hbr hlt5).other (B' := b9) (by omega) (.slice Am m1.length cm); have sB : Below w.heap.size w (wr.setCell ⟨b9, 0, none⟩ (.slice Am m1.length cm)) := (hBW.trans (hbr.mono hsz)).setCell (by show w.heap.size ≤ b9; omega) _; have sO : Kd.R (Kd.int .u64) 61 (wr.setCell ⟨b9, 0, none⟩ (.slice Am m1.length cm)) w.heap.size (fun _ => True) (.slice Am m1.length cm) m1 := own_set g9 (Kd.ybl hor hsz); have sA : Kd.R (Kd.int .u64) 61 (wr.setCell ⟨b9, 0, none⟩ (.slice Am m1.length cm)) w.heap.size (fun _ => True) (.slice Aa ta.length ca) ta := own_set g9 (Kd.ycc hRa hbr);
            have sc9 := s9.cell; have sc3 := s3.cell; have sc5 := s5.cell)
        | (refine ⟨trivial, ?_⟩; gi_at_call 89; refine (CallsIn.inRound l (callsIn_wide.2 (ydw.calls k _ _ m1 _ _ ta _ _ l2 m2 em2 (wr.setCell ⟨b9, 0, none⟩ (.slice Am m1.length cm)) (Kd.R_reads' sO).2.2 (Kd.R_reads' sO).2.1 (Kd.R_reads' sA).2.2 (Kd.R_reads' sA).2.1 (Kd.ybg HR2.out sB) hc2 HM2.out))).mono ?_; clear HM2; rintro e wt ⟨vt, rfl, hot, hbt⟩; obtain ⟨At, ct, rfl⟩ := Kd.ybc hot; have h9 := yei s9 hbt s9.lt; have hhc9 := h9.cell; have hhf9 := h9.frozen))
      have hszr := hbr.size
      have hszt : wr.heap.size ≤ wt.heap.size := by have := hbt.size; simpa using this
      have hst1 : w.heap.size ≤ (wr.setCell ⟨b9, 0, none⟩ (.slice Am m1.length cm)).heap.size := by simp; omega
      have hbW : Below w.heap.size W wt := ((hbr.mono hsz).setCell (p := ⟨b9, 0, none⟩) (by show w.heap.size ≤ b9; omega) (.slice Am m1.length cm)).trans (hbt.mono hst1)
      have hkW : KeepsOthers W wt := ((yhd hbr).trans (KeepsOthers.setCell _ _ _)).trans (yhd hbt)
      have hbb : wt.heap[Wf.heap.size]? = W.heap[Wf.heap.size]? := (hbt.block _ (by simp; omega)).trans ((Below.heap_setCell _ _ _ _ (by show Wf.heap.size ≠ b9; omega)).trans (hbr.block _ (by omega)))
      exact ⟨hkW.trans (KeepsOthers.setCell _ _ _), ⟨hbW.setCell (by show w.heap.size ≤ b9; omega) _, (Below.heap_setCell _ _ _ _ (by show Wf.heap.size ≠ b9; omega)).trans hbb⟩, ⟨m2, hfold, by rw [hlen']; exact hok', PowSt.put h9 (yei s3 hbt s3.lt) (yei s5 hbt s5.lt) (sB.trans (hbt.mono hst1)) (Kd.ycc sA hbt) (Kd.ybl hot hst1) hb9'⟩, by simp; omega⟩
  case done =>
    rintro D xs W hD rfl ⟨⟨o, hf, hok, Ar, cr, hB9, hRo, hB3, hRa, hB5, hBW, hb9'⟩, hsW⟩ hK
    rw [HRR.out] at hf
    injection hf with hf
    subst hf
    have hc9 := hB9.cell
    have hD2 : w.heap.size ≤ D := by simp at hD; omega
    go_wp2
    show LeavesInM Fence.wide 10 Try.prog Try.f64 _ _ _ _ _
    refine ⟨by simp, .inl ⟨_, _, rfl, run_takeDeferred hK, ?_⟩⟩
    have hg := grownBy_putObj' W D (.deferred none)
    refine ⟨_, results_tmp2 rfl _ _ _, _, rfl, yhw hRo hg (fun r e => by cases e; exact ⟨_, hK, rfl⟩), hBW.grown hg hBW.size (fun k e => by cases e; exact hD2)⟩
  case stop =>
    rintro D c pre W _ _ h _
    exact h.elim
set_option maxRecDepth 100000 in
set_option maxHeartbeats 4000000 in
theorem yax.calls (k : Nat) (A0 : Option Addr) (c0 : Nat) (l0 : List Int) (A1 : Option Addr) (c1 : Nat) (l1 : List Int) (A2 : Option Addr) (c2 : Nat) (l2 : List Int) (r1 : List Int) (r2 : Int) (w : World) (hr0 : Kd.C (Kd.int .u64) w A0 l0.length l0) (hc0 : l0.length ≤ c0) (hr1 : Kd.C (Kd.int .u64) w A1 l1.length l1) (hc1 : l1.length ≤ c1) (hr2 : Kd.C (Kd.int .u64) w A2 l2.length l2) (hc2 : l2.length ≤ c2) (h : yax.f k l0 l1 l2 = some (r1, r2)) :
    Calls Try.prog 64 #[.slice A0 l0.length c0, .slice A1 l1.length c1, .slice A2 l2.length c2] w fun e w' => ∃ v0_ : Value, e = .returned (.tuple #[v0_, .int .i64 r2]) ∧ Kd.R (Kd.int .u64) 61 w' w.heap.size (fun _ => True) v0_ r1 ∧ Below w.heap.size w w' := by
  have HR0 := Aside0.mk hr0
  have HR1 := Aside0.mk hr1
  have HR2 := Aside0.mk hr2
  clear hr0 hr1 hr2
  obtain ⟨⟨ta, te⟩, ha, h⟩ := Option.bind_eq_some_iff.mp h
  have HA := Aside0.mk ha
  clear ha
  by_cases hte : te = 0
  · subst hte
    rw [if_pos rfl] at h
    obtain ⟨t1, h1, h⟩ := Option.bind_eq_some_iff.mp h
    obtain ⟨⟨t2, e2⟩, h2, h⟩ := Option.bind_eq_some_iff.mp h
    obtain ⟨L, hL, h⟩ := Option.bind_eq_some_iff.mp h
    obtain ⟨rr, hr, h⟩ := Option.bind_eq_some_iff.mp h
    injection h with h
    injection h with h3 h4
    subst h3 h4
    have H1 := Aside0.mk h1
    have H2 := Aside0.mk h2
    have HL := Aside0.mk hL
    have HR := Aside0.mk hr
    clear h1 h2 hL hr
    refine callsIn_wide.1 (callsIn_of_wp_marks (n := 10) Try.func64 rfl trivial (wpIn_mono (Q := noPanic (bodyPostM Fence.wide 10 Try.prog Try.f64 _)) (wpIn_wide.2 ?_) of_noPanic) rfl)
    simp only [Try.ntmps64, List.size_toArray, List.length_cons, List.length_nil, Nat.reduceAdd, Nat.reduceSub, Array.replicate_succ, Array.replicate_zero, List.push_toArray, List.append_toArray, List.nil_append, List.cons_append]
    have b3 : Boxed ((w.alloc (.cells #[.slice A0 l0.length c0] 23)).alloc (.cells #[.slice A2 l2.length c2] 23)) w.heap.size 23 (.slice A0 l0.length c0) := (Boxed.new w 23 _).alloc _
    have b5 : Boxed ((w.alloc (.cells #[.slice A0 l0.length c0] 23)).alloc (.cells #[.slice A2 l2.length c2] 23)) (w.heap.size + 1) 23 (.slice A2 l2.length c2) := by have := Boxed.new (w.alloc (.cells #[.slice A0 l0.length c0] 23)) 23 (.slice A2 l2.length c2); rwa [World.size_alloc] at this
    have hB1 : Below w.heap.size w ((w.alloc (.cells #[.slice A0 l0.length c0] 23)).alloc (.cells #[.slice A2 l2.length c2] 23)) := ((Below.refl _ w).alloc (Nat.le_refl _) _).alloc (by simp) _
    have hsz : ((w.alloc (.cells #[.slice A0 l0.length c0] 23)).alloc (.cells #[.slice A2 l2.length c2] 23)).heap.size = w.heap.size + 2 := by simp
    go_wp2_with (go_at_call 88; refine (yds.calls k _ _ l0 _ _ l2 ta 0 _ ?s1 hc0 ?s2 hc2 HA.out).mono ?_; (case s1 => exact Kd.ybg HR0.out hB1); (case s2 => exact Kd.ybg HR2.out hB1); rintro e w1 ⟨va, rfl, hoa, hba⟩; obtain ⟨Aa, ca, rfl⟩ := Kd.ybc hoa; have d3 := yei b3 hba (by omega); have d5 := yei b5 hba (by omega); have hc3 := d3.cell; have hf3 := d3.frozen)
    have e3 := d3.set (.slice Aa ta.length ca)
    have e5 := d5.other (B' := w.heap.size) (by omega) (.slice Aa ta.length ca)
    have hB2 : Below w.heap.size w (w1.setCell ⟨w.heap.size, 0, none⟩ (.slice Aa ta.length ca)) := (hB1.trans (hba.mono (by omega))).setCell (Nat.le_refl _) _
    have hoa2 : Kd.R (Kd.int .u64) 61 (w1.setCell ⟨w.heap.size, 0, none⟩ (.slice Aa ta.length ca)) w.heap.size (fun _ => True) (.slice Aa ta.length ca) ta := own_set d3 (Kd.ybl hoa (by omega))
    obtain ⟨W2, hW2⟩ : ∃ W2, w1.setCell ⟨w.heap.size, 0, none⟩ (.slice Aa ta.length ca) = W2 := ⟨_, rfl⟩
    rw [hW2] at e3 e5 hB2 hoa2 ⊢
    have hc5 := e5.cell
    have hc5b : ∀ o, (W2.alloc o).cell? ⟨w.heap.size + 1, 0, none⟩ = some (.slice A2 l2.length c2) := fun o => (Boxed.alloc e5 o).cell
    have hc5a : ∀ o, (W2.drew.alloc o).cell? ⟨w.heap.size + 1, 0, none⟩ = some (.slice A2 l2.length c2) := fun o => (Boxed.alloc (W := W2.drew) e5 o).cell
    have hsz2 : w.heap.size + 2 ≤ W2.heap.size := by rw [← hW2]; have := hba.size; simp; omega
    clear hW2 d3 d5 hc3 hf3 b3 b5 hoa hba hsz hB1
    rename_i K4 hK4
    unfold yax.rounds at HR
    have hrr := HR.out
    split at hrr
    · rename_i hgood
      obtain ⟨hlen, hL0, hLz, hok⟩ := hgood
      obtain ⟨Ln, rfl⟩ := Int.eq_ofNat_of_zero_le hL0
      rw [show ((Ln : Nat) : Int).toNat = Ln from rfl] at hok hrr
      have HOK := Aside0.mk hok
      have HRR := Aside0.mk hrr
      clear hok hrr HR hL0
      go_region_with (first
        | (go_at_call 39; refine (yfi.calls k 1 t1 _ H1.out).mono ?_; rintro e wq ⟨vq, rfl, hoq, hbq⟩; obtain ⟨Aq, cq, rfl⟩ := Kd.ybc hoq; have f5 : Boxed wq (w.heap.size + 1) 23 (.slice A2 l2.length c2) := (by first | exact (hbq.block _ (by simp; omega)).trans e5 | exact (hbq.block _ (by simp; omega)).trans (Boxed.alloc (W := W2.drew) e5 _)); have f3 : Boxed wq w.heap.size 23 (.slice Aa ta.length ca) := (by first | exact (hbq.block _ (by simp; omega)).trans e3 | exact (hbq.block _ (by simp; omega)).trans (Boxed.alloc (W := W2.drew) e3 _)); have fB : Below w.heap.size w wq := (by first | exact hB2.drew.trans (hbq.mono (by simp; omega)) | exact (hB2.drew.alloc (by simp; omega) _).trans (hbq.mono (by simp; omega))); have fR : Kd.R (Kd.int .u64) 61 wq w.heap.size (fun _ => True) (.slice Aa ta.length ca) ta := (by first | exact Kd.ycc (Kd.ybi hoa2) hbq | exact Kd.ycc (Kd.yba (Kd.ybi hoa2) _) hbq); have fs : w.heap.size + 2 ≤ wq.heap.size := (by have := hbq.size; simp at this; omega); have hcq5 := f5.cell; have hcq5a : ∀ o, (wq.alloc o).cell? ⟨w.heap.size + 1, 0, none⟩ = some (.slice A2 l2.length c2) := fun o => (f5.alloc o).cell; (try (have g9 : Boxed wq W2.heap.size 23 (.slice none 0 0) := (hbq.block _ (by simp)).trans (Boxed.new W2.drew 23 _); have hg9 := g9.cell; have hgf9 := g9.frozen)))
        | (go_at_call 88; refine (yds.calls k _ _ t1 _ _ l2 t2 e2 _ ?s1 ?s2 ?s3 hc2 H2.out).mono ?_; (case s1 => first | exact (Kd.R_reads' hoq).2.2 | exact Kd.yau (Kd.R_reads' hoq).2.2 _); (case s2 => exact (Kd.R_reads' hoq).2.1); (case s3 => first | exact Kd.ybg HR2.out fB | exact Kd.yau (Kd.ybg HR2.out fB) _); rintro e wr ⟨vr, rfl, hor, hbr⟩; obtain ⟨Ar, cr, rfl⟩ := Kd.ybc hor; have k5 : Boxed wr (w.heap.size + 1) 23 (.slice A2 l2.length c2) := (by first | exact (hbr.block _ (by first | omega | (simp; omega))).trans f5 | exact (hbr.block _ (by first | omega | (simp; omega))).trans (f5.alloc _)); have k3 : Boxed wr w.heap.size 23 (.slice Aa ta.length ca) := (by first | exact (hbr.block _ (by first | omega | (simp; omega))).trans f3 | exact (hbr.block _ (by first | omega | (simp; omega))).trans (f3.alloc _)); have kB : Below w.heap.size w wr := (by first | exact fB.trans (hbr.mono (by first | omega | (simp; omega))) | exact (fB.alloc (by omega) _).trans (hbr.mono (by first | omega | (simp; omega)))); have kR : Kd.R (Kd.int .u64) 61 wr w.heap.size (fun _ => True) (.slice Aa ta.length ca) ta := (by first | exact Kd.ycc fR hbr | exact Kd.ycc (Kd.yba fR _) hbr); have kO : Kd.R (Kd.int .u64) 61 wr w.heap.size (fun _ => True) (.slice Ar t2.length cr) t2 := Kd.ybl hor (by first | omega | (simp; omega)); have ks : w.heap.size + 2 ≤ wr.heap.size := (by have := hbr.size; first | omega | (simp at this; omega)); (first | (have k9 : Boxed wr W2.heap.size 23 (.slice none 0 0) := (hbr.block _ g9.lt).trans g9; have hk9 := k9.cell; have hkf9 := k9.frozen; have hk92 : w.heap.size + 2 ≤ W2.heap.size := hsz2) | (have k9 : Boxed wr wq.heap.size 23 (.slice none 0 0) := (hbr.block _ (by simp)).trans (Boxed.new wq 23 _); have hk9 := k9.cell; have hkf9 := k9.frozen; have hk92 : w.heap.size + 2 ≤ wq.heap.size := fs) | skip)))
      all_goals (first
        | have hSt := PowSt.put k9 k3 k5 kB kR kO hk92
        | have hSt : PowSt w wr.heap.size Aa ca ta A2 c2 l2 (wr.alloc (.cells #[.slice Ar t2.length cr] 23)) t2 := ⟨Ar, cr, Boxed.new wr 23 _, Kd.yba kO _, k3.alloc _, Kd.yba kR _, k5.alloc _, kB.alloc (by omega) _, ks⟩)
      all_goals
        refine hK4 _ _ ?_
        exact yax.tail_wp _ _ _ _ _ rfl k w _ _ _ _ _ _ _ _ _ _ _ _ _ _ _ _ _ _ _ _ _ _ _ _ _ _ _ _ _ _ hc1 hc2 HR1 HR2 hlen HL hLz HOK HRR hSt
    · cases hrr
  · rw [if_neg hte] at h
    injection h with h
    injection h with h3 h4
    subst h3 h4
    have b3 : Boxed ((w.alloc (.cells #[.slice A0 l0.length c0] 23)).alloc (.cells #[.slice A2 l2.length c2] 23)) w.heap.size 23 (.slice A0 l0.length c0) := (Boxed.new w 23 _).alloc _
    have hB1 : Below w.heap.size w ((w.alloc (.cells #[.slice A0 l0.length c0] 23)).alloc (.cells #[.slice A2 l2.length c2] 23)) := ((Below.refl _ w).alloc (Nat.le_refl _) _).alloc (by simp) _
    have hsz : ((w.alloc (.cells #[.slice A0 l0.length c0] 23)).alloc (.cells #[.slice A2 l2.length c2] 23)).heap.size = w.heap.size + 2 := by simp
    have hne : (te == 0) = false := beq_eq_false_iff_ne.2 hte
    go_enter Try.func64, Try.ntmps64
    go_wp2_with (go_at_call 88; refine (yds.calls k _ _ l0 _ _ l2 ta te _ ?s1 hc0 ?s2 hc2 HA.out).mono ?_; (case s1 => exact Kd.ybg HR0.out hB1); (case s2 => exact Kd.ybg HR2.out hB1); rintro e w1 ⟨va, rfl, hoa, hba⟩; obtain ⟨Aa, ca, rfl⟩ := Kd.ybc hoa; have d3 := yei b3 hba (by omega); have hc3 := d3.cell; have hf3 := d3.frozen)
    refine bodyPost_ret (results_tmp2 rfl _ _ _) rfl ?_
    exact ⟨_, rfl, Kd.yfv _ _ _ _ _, (hB1.trans (hba.mono (by omega))).setCell (Nat.le_refl _) _⟩
end Go.Proofs.Ytgnaaaliadiekaa.B
end
