/- Written by xp.py, a program of this session, over the print of the kit: what it says is checked by its build. -/
import Derived.Test.YtgnaaaliadiekaaBx0
import Derived.Test.YtgnaaaliadiekaaBx2
import Derived.Test.YtgnaaaliadiekaaBx6
import Derived.Test.YtgnaaaliadiekaaQH1
namespace Go.Proofs.Ytgnaaaliadiekaa.B
open Go.RowKit Go.Proofs.YtgnaaaliadiekaaW.PrintWords Go.Proofs.YtgnaaaliadiekaaW.PrintLast Go.Proofs.YtgnaaaliadiekaaW.PrintMore
attribute [local go_sem] max2_int min2_int max_two min_two max_three min_three max_four min_four   -- for this text's walks alone
attribute [local go_sem] run_Add64 run_Add64_0 run_Sub64 run_Sub64_0
set_option linter.unusedVariables false
set_option linter.unusedSimpArgs false

open Go.Shelf
attribute [local go_sem] Oper.semAt_some
theorem Boxed.new3 (W : World) (o o' o'' : Obj) (t : TypeId) (v : Value) : Boxed ((((W.alloc o).alloc o').alloc o'').alloc (.cells #[v] t)) (W.heap.size + 1 + 1 + 1) t v := by
  have := Boxed.new2 (W.alloc o) o' o'' t v
  rwa [World.size_alloc] at this
/-- What stands in memory between two rounds of 'walk'. -/
def WkSt (w : World) (Aw : Option Addr) (cw : Nat) (lw : List Int) (s : Int) (L b : Nat) (W : World) (j : Nat) : Prop :=
  Boxed W w.heap.size 28 (.slice Aw lw.length cw) ∧ Boxed W (w.heap.size + 1) 3 (.int .i64 s) ∧ Boxed W (w.heap.size + 1 + 1) 3 (.int .i64 0) ∧ Boxed W (w.heap.size + 1 + 1 + 1) 4 (.bool false) ∧
    Boxed W b 3 (.int .i64 j) ∧ Boxed W (b + 1) 3 (.int .i64 L) ∧ Below w.heap.size w W ∧ w.heap.size + 4 ≤ b
theorem WkSt.own {w : World} {Aw : Option Addr} {cw : Nat} {lw : List Int} {s : Int} {L b j B : Nat} (hB : w.heap.size ≤ B) {W W' : World} {row : Option Nat} (h : WkSt w Aw cw lw s L b W j) (hg : W.grownBy W' row) (hr : ∀ r, row = some r → B ≤ r ∧ ∃ o : Obj, W.heap[r]? = some o ∧ o.isCells = false) : WkSt w Aw cw lw s L b W' j := by
  obtain ⟨h1, h2, h3, h4, h5, h6, h7, h8⟩ := h
  have box : ∀ {b : Nat} {t : TypeId} {v : Value}, Boxed W b t v → Boxed W' b t v := by
    intro b t v hb
    refine hb.kept hg (fun e => ?_)
    obtain ⟨_, o, e1, e2⟩ := hr b e.symm
    have e3 : W.heap[b]? = some (.cells #[v] t (0, 0)) := hb
    rw [e3] at e1
    injection e1 with e1
    subst e1
    cases e2
  exact ⟨box h1, box h2, box h3, box h4, box h5, box h6, h7.grown hg h7.size (fun k e => Nat.le_trans hB (hr k e).1), h8⟩
theorem WkSt.put {w : World} {Aw : Option Addr} {cw : Nat} {lw : List Int} {s : Int} {L b j : Nat} {W : World} (h : WkSt w Aw cw lw s L b W j) (j' : Nat) : WkSt w Aw cw lw s L b (W.setCell ⟨b, 0, none⟩ (.int .i64 j')) j' := by
  obtain ⟨h1, h2, h3, h4, h5, h6, h7, h8⟩ := h
  exact ⟨h1.other (by omega) _, h2.other (by omega) _, h3.other (by omega) _, h4.other (by omega) _, h5.set _, h6.other (by omega) _, h7.setCell (by show w.heap.size ≤ b; omega) _, h8⟩
def walkTo (s : Int) (L : Nat) : Nat := if 1 ≤ s ∧ s ≤ L then s.toNat else L
/-- What is known where 'walk' is left: by a bit that isn't the iterator's, or where so many have come. -/
def WkEnd (w : World) (Aw : Option Addr) (cw : Nat) (lw zs : List Int) (s : Int) (L b : Nat) (c : Code) (pre : List (Int × Bool)) (W : World) : Prop :=
  pre ≠ upto (bitsOf zs L) pre.length ∨ c = .exit 0 ∧ WkSt w Aw cw lw s L b W pre.length ∧ s = pre.length ∧ 1 ≤ pre.length
set_option maxRecDepth 100000 in
set_option maxHeartbeats 8000000 in
theorem walk.calls (k k0 Bs : Nat) (A : Option Addr) (cap : Nat) (zs : List Int) (Aw : Option Addr) (cw : Nat) (lw : List Int) (L : Nat) (s : Int) (w : World) (hlen : zs.length < 1099511627776) (hL : nat_Len.f k0 zs = some (L : Int)) (hLz : L ≤ 64 * zs.length) (hbs : Boxed w Bs 23 (.slice A zs.length cap)) (hcap : zs.length ≤ cap) (hC : Kd.C (Kd.int .u64) w A zs.length zs)
    (hW : Kd.C (Kd.int .i64) w Aw lw.length lw) (hcw : lw.length ≤ cw) (hrl : latchkeyref01_Len.f k lw = some (L : Int)) (hbit : ∀ i : Nat, i < L → latchkeyref01_Bit.f lw (i : Int) = some (if bitOf zs i = true then 1 else 0)) (hs0 : -1 ≤ s) (hs1 : s < 65536) :
    Calls Try.prog 15 #[.func (.func 44) #[] #[.pointer (some ⟨Bs, 0, none⟩)], .slice Aw lw.length cw, .int .i64 s] w fun e w' => e = .returned (.tuple #[.int .i64 (walkTo s L : Nat), .bool true]) ∧ Below w.heap.size w w' := by
  have hlB := hbs.lt
  have HL := Aside0.mk hL
  have HRL := Aside0.mk hrl
  have HC := Aside0.mk hC
  have HW := Aside0.mk hW
  have HBT := Aside0.mk hbit
  have HX_s := Aside0.mk hbs
  have Y1 := Aside0.mk ((((Boxed.new w 28 (.slice Aw lw.length cw)).alloc (.cells #[.int .i64 s] 3)).alloc (.cells #[.int .i64 0] 3)).alloc (.cells #[.bool false] 4))
  have Y2 := Aside0.mk (((Boxed.new1 w (.cells #[.slice Aw lw.length cw] 28) 3 (.int .i64 s)).alloc (.cells #[.int .i64 0] 3)).alloc (.cells #[.bool false] 4))
  have Y3 := Aside0.mk ((Boxed.new2 w (.cells #[.slice Aw lw.length cw] 28) (.cells #[.int .i64 s] 3) 3 (.int .i64 0)).alloc (.cells #[.bool false] 4))
  have Y4 := Aside0.mk (Boxed.new3 w (.cells #[.slice Aw lw.length cw] 28) (.cells #[.int .i64 s] 3) (.cells #[.int .i64 0] 3) 4 (.bool false))
  clear hL hrl hC hW hbit hbs
  refine callsIn_wide.1 (callsIn_of_wp_marks (n := 10) Try.func15 rfl trivial (wpIn_mono (Q := noPanic (bodyPostM Fence.wide 10 Try.prog Try.f15 _)) (wpIn_wide.2 ?_) of_noPanic) rfl)
  simp only [Try.ntmps15, List.size_toArray, List.length_cons, List.length_nil, Nat.reduceAdd, Nat.reduceSub, Array.replicate_succ, Array.replicate_zero, List.push_toArray, List.append_toArray, List.nil_append, List.cons_append]
  go_wp2_with (go_at_call 14; (with_reducible refine (latchkeyref01_Len.calls k _ _ lw L _ ?s0 ?c0 HRL.out).mono ?_); (case s0 => exact (by repeat (first | with_reducible exact Aside0.out (by assumption) | with_reducible refine Kd.C_alloc ?_ _))); (case c0 => assumption); rintro e w1 ⟨rfl, hq⟩; have HB1 := Aside0.mk (below_drawn0 hq); clear hq)
  have hz1 : w.heap.size + 4 ≤ w1.heap.size := by have := HB1.out.size; simp at this; omega
  have hSt : WkSt w Aw cw lw s L w1.heap.size ((w1.alloc (.cells #[.int .i64 0] 3)).alloc (.cells #[.int .i64 L] 3)) 0 :=
    ⟨(by repeat (first | with_reducible exact Aside0.out (by assumption) | with_reducible refine Boxed.alloc ?_ _ | with_reducible refine Boxed.drewN ?_ _ | with_reducible refine Boxed.drew ?_ | refine box_step ?_ (Aside0.out (by assumption)))), (by repeat (first | with_reducible exact Aside0.out (by assumption) | with_reducible refine Boxed.alloc ?_ _ | with_reducible refine Boxed.drewN ?_ _ | with_reducible refine Boxed.drew ?_ | refine box_step ?_ (Aside0.out (by assumption)))), (by repeat (first | with_reducible exact Aside0.out (by assumption) | with_reducible refine Boxed.alloc ?_ _ | with_reducible refine Boxed.drewN ?_ _ | with_reducible refine Boxed.drew ?_ | refine box_step ?_ (Aside0.out (by assumption)))), (by repeat (first | with_reducible exact Aside0.out (by assumption) | with_reducible refine Boxed.alloc ?_ _ | with_reducible refine Boxed.drewN ?_ _ | with_reducible refine Boxed.drew ?_ | refine box_step ?_ (Aside0.out (by assumption)))), (Boxed.new w1 3 _).alloc _, Boxed.new1 w1 _ 3 _, (by repeat (first | with_reducible exact Below.refl _ _ | with_reducible exact Aside0.out (by assumption) | with_reducible refine below_alloc ?_ _ | with_reducible refine pw_below_drewN ?_ _ | with_reducible refine below_drew1 ?_ | refine below_step ?_ (Aside0.out (by assumption)))), hz1⟩
  have hBsW : Boxed ((w1.alloc (.cells #[.int .i64 0] 3)).alloc (.cells #[.int .i64 L] 3)) Bs 23 (.slice A zs.length cap) := (by repeat (first | with_reducible exact Aside0.out (by assumption) | with_reducible refine Boxed.alloc ?_ _ | with_reducible refine Boxed.drewN ?_ _ | with_reducible refine Boxed.drew ?_ | refine box_step ?_ (Aside0.out (by assumption))))
  obtain ⟨W0, hW0⟩ : ∃ W0, (w1.alloc (.cells #[.int .i64 0] 3)).alloc (.cells #[.int .i64 L] 3) = W0 := ⟨_, rfl⟩
  obtain ⟨b, hb⟩ : ∃ b, w1.heap.size = b := ⟨_, rfl⟩
  rw [hW0] at hSt hBsW ⊢
  rw [hb] at hSt ⊢
  have hbW : Below w.heap.size w W0 := by obtain ⟨_, _, _, _, _, _, h, _⟩ := hSt; exact h
  have hsz := hbW.size
  have hbl : b < W0.heap.size := (hSt.2.2.2.2.1).lt
  have hb4 : w.heap.size + 4 ≤ b := hSt.2.2.2.2.2.2.2
  clear hW0 hb hz1 HB1 Y1 Y2 Y3 Y4
  refine (wpIn_wide (n := 10)).1 ?_
  refine wpIn_rangeFunc_ownF rfl (by decide) (gf := 44) (lb := #[.pointer (some ⟨Bs, 0, none⟩)]) rfl trivial (enters_of Try.func44 (by kernel_rfl) rfl)
    (Bits_stops 9 (by decide) Bs w.heap.size A cap zs L k0 hlen HL.out hLz W0 hsz (by omega) hBsW.cell hcap (fun W' h => Kd.C_below HC.out (hbW.trans h.1)))
    KB.trans (KB.put (by omega) (by omega)) (Below.refl _ _) (fun _ => rfl)
    (fun pre W => WkSt w Aw cw lw s L b W pre.length ∧ ¬ (1 ≤ s ∧ s ≤ pre.length) ∧ (pre = upto (bitsOf zs L) pre.length))
    (fun c pre W => WkEnd w Aw cw lw zs s L b c pre W)
    (fun s A B row hs hg hr => ⟨hs.1.own hsz hg hr, hs.2⟩)
    (fun c s A B row hs hg hr => hs.imp id (fun h => ⟨h.1, h.2.1.own hsz hg hr, h.2.2⟩))
    ⟨hSt, by simp; omega, rfl⟩
    (fun x => { tmps := #[.func (.func 44) #[] #[.pointer (some ⟨Bs, 0, none⟩)], .slice Aw lw.length cw, .int .i64 s, undef, .pointer (some ⟨w.heap.size, 0, none⟩), .pointer (some ⟨w.heap.size + 1, 0, none⟩), .pointer (some ⟨w.heap.size + 1 + 1, 0, none⟩), .pointer (some ⟨w.heap.size + 1 + 1 + 1, 0, none⟩), .pointer (some ⟨b, 0, none⟩), .pointer (some ⟨b + 1, 0, none⟩), .int .i64 x.1, .bool x.2, .slice Aw lw.length cw, .int .i64 L, .func (.func 44) #[] #[.pointer (some ⟨Bs, 0, none⟩)], .int .i64 x.1, .bool x.2, undef, undef, undef, undef, undef, undef, undef, undef, undef, undef, undef, undef, undef, undef, undef, undef, undef, undef, undef, undef, undef], defers := [] })
    ?assign ?body ?done ?stop
  case assign =>
    intro l x W K hK
    gi_wp2
    exact hK
  case body =>
    rintro l pre ⟨xi, xb⟩ W ⟨hst, hns, hpre⟩ hlt
    have hst' := hst
    obtain ⟨h1, h2, h3, h4, h5, h6, h7, h8⟩ := hst'
    have hL1 : (L : Int) ≤ 70368744177664 := by omega
    have hlt' : (pre.length : Int) < L := by omega
    have hsW := h7.size
    have k1 := h1.cell
    have k2 := h2.cell
    have k3 := h3.cell
    have f3 := h3.frozen
    have k4 := h4.cell
    have f4 := h4.frozen
    have k5 := h5.cell
    have f5 := h5.frozen
    have k6 := h6.cell
    have hb1 := h5.lt
    have hbs2 : Bs < W.heap.size := by omega
    have hnex : ∀ y, y ≠ bitsOf zs L pre.length → pre ++ [y] ≠ upto (bitsOf zs L) (pre ++ [y]).length := by
      intro y hy he
      rw [List.length_append, List.length_singleton, upto_succ, ← hpre] at he
      exact hy (by simpa using he)
    have hind : bitsOf zs L pre.length = ((L : Int) - 1 - pre.length, bitOf zs (L - 1 - pre.length)) := rfl
    have HN := Aside0.mk hnex
    clear hnex
    by_cases hx : xi = (L : Int) - 1 - pre.length
    · subst hx
      have hb0 := HBT.out (L - 1 - pre.length) (by omega)
      rw [show ((L - 1 - pre.length : Nat) : Int) = (L : Int) - 1 - pre.length from by omega] at hb0
      generalize bitOf zs (L - 1 - pre.length) = bv at hb0 hind
      by_cases hbx : xb = bv
      · subst hbx
        have hpre2 : pre ++ [((L : Int) - 1 - pre.length, xb)] = upto (bitsOf zs L) (pre ++ [((L : Int) - 1 - pre.length, xb)]).length := by
          rw [List.length_append, List.length_singleton, upto_succ, ← hpre, hind]
        have HP2 := Aside0.mk hpre2
        have HI := Aside0.mk hind
        have HPR := Aside0.mk hpre
        clear hpre hind hpre2
        by_cases hsj : s = (pre.length : Int) + 1
        · have hse : (((pre.length : Int) + 1) == s) = true := by rw [hsj]; simp
          cases xb with
          | true =>
            have HBI := Aside0.mk (show latchkeyref01_Bit.f lw ((L : Int) - 1 - pre.length) = some 1 from hb0)
            clear hb0
            gi_wp2_with (refine ⟨trivial, ?_⟩; gi_at_call 45; refine (CallsIn.inRound l (callsIn_wide.2 (latchkeyref01_Bit.calls _ _ lw ((L : Int) - 1 - pre.length) 1 W (Kd.C_below HW.out h7) hcw HBI.out))).mono ?_; rintro e w2 ⟨rfl, hq⟩; have hb2 := below_drawn0 hq; clear hq; have hSt2 : WkSt w Aw cw lw s L b w2 pre.length := ⟨box_step h1 hb2, box_step h2 hb2, box_step h3 hb2, box_step h4 hb2, box_step h5 hb2, box_step h6 hb2, h7.trans (hb2.mono h7.size), h8⟩; have k2 := (box_step h2 hb2).cell; have k3 := (box_step h3 hb2).cell; have f3 := (box_step h3 hb2).frozen; have k4 := (box_step h4 hb2).cell; have f4 := (box_step h4 hb2).frozen; have k5 := (box_step h5 hb2).cell; have f5 := (box_step h5 hb2).frozen; have k6 := (box_step h6 hb2).cell)
            exact ⟨(keeps_below hb2).trans (KeepsOthers.setCell _ _ _), .inr ⟨rfl, by have := hSt2.put (pre.length + 1); simpa using this, by rw [List.length_append, List.length_singleton]; omega, by simp⟩⟩
          | false =>
            have HBI := Aside0.mk (show latchkeyref01_Bit.f lw ((L : Int) - 1 - pre.length) = some 0 from hb0)
            clear hb0
            gi_wp2_with (refine ⟨trivial, ?_⟩; gi_at_call 45; refine (CallsIn.inRound l (callsIn_wide.2 (latchkeyref01_Bit.calls _ _ lw ((L : Int) - 1 - pre.length) 0 W (Kd.C_below HW.out h7) hcw HBI.out))).mono ?_; rintro e w2 ⟨rfl, hq⟩; have hb2 := below_drawn0 hq; clear hq; have hSt2 : WkSt w Aw cw lw s L b w2 pre.length := ⟨box_step h1 hb2, box_step h2 hb2, box_step h3 hb2, box_step h4 hb2, box_step h5 hb2, box_step h6 hb2, h7.trans (hb2.mono h7.size), h8⟩; have k2 := (box_step h2 hb2).cell; have k3 := (box_step h3 hb2).cell; have f3 := (box_step h3 hb2).frozen; have k4 := (box_step h4 hb2).cell; have f4 := (box_step h4 hb2).frozen; have k5 := (box_step h5 hb2).cell; have f5 := (box_step h5 hb2).frozen; have k6 := (box_step h6 hb2).cell)
            exact ⟨(keeps_below hb2).trans (KeepsOthers.setCell _ _ _), .inr ⟨rfl, by have := hSt2.put (pre.length + 1); simpa using this, by rw [List.length_append, List.length_singleton]; omega, by simp⟩⟩
        · have hse : (((pre.length : Int) + 1) == s) = false := beq_eq_false_iff_ne.2 (fun e => hsj e.symm)
          cases xb with
          | true =>
            have HBI := Aside0.mk (show latchkeyref01_Bit.f lw ((L : Int) - 1 - pre.length) = some 1 from hb0)
            clear hb0
            gi_wp2_with (refine ⟨trivial, ?_⟩; gi_at_call 45; refine (CallsIn.inRound l (callsIn_wide.2 (latchkeyref01_Bit.calls _ _ lw ((L : Int) - 1 - pre.length) 1 W (Kd.C_below HW.out h7) hcw HBI.out))).mono ?_; rintro e w2 ⟨rfl, hq⟩; have hb2 := below_drawn0 hq; clear hq; have hSt2 : WkSt w Aw cw lw s L b w2 pre.length := ⟨box_step h1 hb2, box_step h2 hb2, box_step h3 hb2, box_step h4 hb2, box_step h5 hb2, box_step h6 hb2, h7.trans (hb2.mono h7.size), h8⟩; have k2 := (box_step h2 hb2).cell; have k3 := (box_step h3 hb2).cell; have f3 := (box_step h3 hb2).frozen; have k4 := (box_step h4 hb2).cell; have f4 := (box_step h4 hb2).frozen; have k5 := (box_step h5 hb2).cell; have f5 := (box_step h5 hb2).frozen; have k6 := (box_step h6 hb2).cell)
            exact ⟨(keeps_below hb2).trans (KeepsOthers.setCell _ _ _), ⟨(hb2.mono hsW).setCell (by show w.heap.size ≤ b; omega) _, (Below.heap_setCell _ _ _ _ (by show Bs ≠ b; omega)).trans (hb2.block _ hbs2)⟩, by have := hSt2.put (pre.length + 1); simpa using this, by rw [List.length_append, List.length_singleton]; omega, HP2.out⟩
          | false =>
            have HBI := Aside0.mk (show latchkeyref01_Bit.f lw ((L : Int) - 1 - pre.length) = some 0 from hb0)
            clear hb0
            gi_wp2_with (refine ⟨trivial, ?_⟩; gi_at_call 45; refine (CallsIn.inRound l (callsIn_wide.2 (latchkeyref01_Bit.calls _ _ lw ((L : Int) - 1 - pre.length) 0 W (Kd.C_below HW.out h7) hcw HBI.out))).mono ?_; rintro e w2 ⟨rfl, hq⟩; have hb2 := below_drawn0 hq; clear hq; have hSt2 : WkSt w Aw cw lw s L b w2 pre.length := ⟨box_step h1 hb2, box_step h2 hb2, box_step h3 hb2, box_step h4 hb2, box_step h5 hb2, box_step h6 hb2, h7.trans (hb2.mono h7.size), h8⟩; have k2 := (box_step h2 hb2).cell; have k3 := (box_step h3 hb2).cell; have f3 := (box_step h3 hb2).frozen; have k4 := (box_step h4 hb2).cell; have f4 := (box_step h4 hb2).frozen; have k5 := (box_step h5 hb2).cell; have f5 := (box_step h5 hb2).frozen; have k6 := (box_step h6 hb2).cell)
            exact ⟨(keeps_below hb2).trans (KeepsOthers.setCell _ _ _), ⟨(hb2.mono hsW).setCell (by show w.heap.size ≤ b; omega) _, (Below.heap_setCell _ _ _ _ (by show Bs ≠ b; omega)).trans (hb2.block _ hbs2)⟩, by have := hSt2.put (pre.length + 1); simpa using this, by rw [List.length_append, List.length_singleton]; omega, HP2.out⟩
      · have hne : ((L : Int) - 1 - pre.length, xb) ≠ bitsOf zs L pre.length := by rw [hind]; intro e; exact hbx (Prod.mk.inj e).2
        have HE := Aside0.mk hne
        clear hpre hind hne
        cases bv with
        | true =>
          have hxb : xb = false := by cases xb <;> simp_all
          subst hxb
          have HBI := Aside0.mk (show latchkeyref01_Bit.f lw ((L : Int) - 1 - pre.length) = some 1 from hb0)
          clear hb0 hbx
          gi_wp2_with (refine ⟨trivial, ?_⟩; gi_at_call 45; refine (CallsIn.inRound l (callsIn_wide.2 (latchkeyref01_Bit.calls _ _ lw ((L : Int) - 1 - pre.length) 1 W (Kd.C_below HW.out h7) hcw HBI.out))).mono ?_; rintro e w2 ⟨rfl, hq⟩; have hb2 := below_drawn0 hq; clear hq; have hSt2 : WkSt w Aw cw lw s L b w2 pre.length := ⟨box_step h1 hb2, box_step h2 hb2, box_step h3 hb2, box_step h4 hb2, box_step h5 hb2, box_step h6 hb2, h7.trans (hb2.mono h7.size), h8⟩; have k2 := (box_step h2 hb2).cell; have k3 := (box_step h3 hb2).cell; have f3 := (box_step h3 hb2).frozen; have k4 := (box_step h4 hb2).cell; have f4 := (box_step h4 hb2).frozen; have k5 := (box_step h5 hb2).cell; have f5 := (box_step h5 hb2).frozen; have k6 := (box_step h6 hb2).cell)
          exact ⟨(keeps_below hb2).trans ((KeepsOthers.setCell _ _ _).trans (KeepsOthers.setCell _ _ _)), .inl (HN.out _ HE.out)⟩
        | false =>
          have hxb : xb = true := by cases xb <;> simp_all
          subst hxb
          have HBI := Aside0.mk (show latchkeyref01_Bit.f lw ((L : Int) - 1 - pre.length) = some 0 from hb0)
          clear hb0 hbx
          gi_wp2_with (refine ⟨trivial, ?_⟩; gi_at_call 45; refine (CallsIn.inRound l (callsIn_wide.2 (latchkeyref01_Bit.calls _ _ lw ((L : Int) - 1 - pre.length) 0 W (Kd.C_below HW.out h7) hcw HBI.out))).mono ?_; rintro e w2 ⟨rfl, hq⟩; have hb2 := below_drawn0 hq; clear hq; have hSt2 : WkSt w Aw cw lw s L b w2 pre.length := ⟨box_step h1 hb2, box_step h2 hb2, box_step h3 hb2, box_step h4 hb2, box_step h5 hb2, box_step h6 hb2, h7.trans (hb2.mono h7.size), h8⟩; have k2 := (box_step h2 hb2).cell; have k3 := (box_step h3 hb2).cell; have f3 := (box_step h3 hb2).frozen; have k4 := (box_step h4 hb2).cell; have f4 := (box_step h4 hb2).frozen; have k5 := (box_step h5 hb2).cell; have f5 := (box_step h5 hb2).frozen; have k6 := (box_step h6 hb2).cell)
          exact ⟨(keeps_below hb2).trans ((KeepsOthers.setCell _ _ _).trans (KeepsOthers.setCell _ _ _)), .inl (HN.out _ HE.out)⟩
    · have hne : (xi, xb) ≠ bitsOf zs L pre.length := by rw [hind]; intro e; exact hx (Prod.mk.inj e).1
      have HE := Aside0.mk hne
      have hxn : (xi != (L : Int) - 1 - pre.length) = true := by simpa using hx
      clear hpre hind hne hx
      gi_wp2
      refine ⟨trivial, ?_⟩
      gi_wp2
      exact ⟨(KeepsOthers.setCell _ _ _).trans (KeepsOthers.setCell _ _ _), .inl (HN.out _ HE.out)⟩
  case done =>
    rintro D xs W hD rfl ⟨hst, hns, -⟩ hK
    have hst' := hst
    obtain ⟨h1, h2, h3, h4, h5, h6, h7, h8⟩ := hst'
    rw [upto_length] at h5 hns
    have k3 := h3.cell
    have f3 := h3.frozen
    have k4 := h4.cell
    have f4 := h4.frozen
    have k5 := h5.cell
    have hD2 : w.heap.size ≤ D := by omega
    go_wp2
    show LeavesInM Fence.wide 10 Try.prog Try.f15 _ _ _ _ _
    have hDb : ∀ k, k < W0.heap.size → D ≠ k := fun k h e => by omega
    have hK2 : ((W.setCell ⟨w.heap.size + 1 + 1, 0, none⟩ (.int .i64 L)).setCell ⟨w.heap.size + 1 + 1 + 1, 0, none⟩ (.bool true)).heap[D]? = some (.deferred (some [])) :=
      (Below.heap_setCell _ _ _ _ (by show D ≠ w.heap.size + 1 + 1 + 1; exact hDb _ (by omega))).trans ((Below.heap_setCell _ _ _ _ (by show D ≠ w.heap.size + 1 + 1; exact hDb _ (by omega))).trans hK)
    refine ⟨by simp, .inl ⟨_, _, rfl, run_takeDeferred hK2, ?_⟩⟩
    have hg := grownBy_putObj' ((W.setCell ⟨w.heap.size + 1 + 1, 0, none⟩ (.int .i64 L)).setCell ⟨w.heap.size + 1 + 1 + 1, 0, none⟩ (.bool true)) D (.deferred none)
    have r3 := ((h3.set (.int .i64 L)).other (B' := w.heap.size + 1 + 1 + 1) (by omega) (.bool true)).kept hg (fun e => by injection e with e; exact hDb _ (by omega) e.symm)
    have r4 := ((h4.other (B' := w.heap.size + 1 + 1) (by omega) (.int .i64 L)).set (.bool true)).kept hg (fun e => by injection e with e; exact hDb _ (by omega) e.symm)
    have q3 := r3.cell
    have q4 := r4.cell
    refine ⟨.tuple #[.int .i64 L, .bool true], by simp [results, Try.results15, go_sem, q3, q4], by rw [show walkTo s L = L from by unfold walkTo; rw [if_neg hns]], ?_⟩
    exact (((h7.setCell (by show w.heap.size ≤ w.heap.size + 1 + 1; omega) _).setCell (by show w.heap.size ≤ w.heap.size + 1 + 1 + 1; omega) _).grown hg (by have := h7.size; simp; omega) (fun k e => by cases e; exact hD2))
  case stop =>
    rintro D c pre W hD ⟨j, hj, hpre⟩ hend hK
    rcases hend with h | ⟨rfl, hst, hs, hp⟩
    · exact absurd (by rw [hpre, upto_length]) h
    · have hpl : pre.length ≤ L := by rw [hpre, upto_length]; exact hj
      clear hpre
      obtain ⟨h1, h2, h3, h4, h5, h6, h7, h8⟩ := hst
      have k3 := h3.cell
      have f3 := h3.frozen
      have k4 := h4.cell
      have f4 := h4.frozen
      have k5 := h5.cell
      have hD2 : w.heap.size ≤ D := by omega
      gi_wp2
      go_wp2
      show LeavesInM Fence.wide 10 Try.prog Try.f15 _ _ _ _ _
      have hDb : ∀ k, k < W0.heap.size → D ≠ k := fun k h e => by omega
      have hK2 : ((W.setCell ⟨w.heap.size + 1 + 1, 0, none⟩ (.int .i64 pre.length)).setCell ⟨w.heap.size + 1 + 1 + 1, 0, none⟩ (.bool true)).heap[D]? = some (.deferred (some [])) :=
        (Below.heap_setCell _ _ _ _ (by show D ≠ w.heap.size + 1 + 1 + 1; exact hDb _ (by omega))).trans ((Below.heap_setCell _ _ _ _ (by show D ≠ w.heap.size + 1 + 1; exact hDb _ (by omega))).trans hK)
      refine ⟨by simp, .inl ⟨_, _, rfl, run_takeDeferred hK2, ?_⟩⟩
      have hg := grownBy_putObj' ((W.setCell ⟨w.heap.size + 1 + 1, 0, none⟩ (.int .i64 pre.length)).setCell ⟨w.heap.size + 1 + 1 + 1, 0, none⟩ (.bool true)) D (.deferred none)
      have r3 := ((h3.set (.int .i64 pre.length)).other (B' := w.heap.size + 1 + 1 + 1) (by omega) (.bool true)).kept hg (fun e => by injection e with e; exact hDb _ (by omega) e.symm)
      have r4 := ((h4.other (B' := w.heap.size + 1 + 1) (by omega) (.int .i64 pre.length)).set (.bool true)).kept hg (fun e => by injection e with e; exact hDb _ (by omega) e.symm)
      have q3 := r3.cell
      have q4 := r4.cell
      refine ⟨.tuple #[.int .i64 pre.length, .bool true], by simp [results, Try.results15, go_sem, q3, q4], by rw [show walkTo s L = pre.length from by unfold walkTo; rw [if_pos ⟨by omega, by omega⟩]; omega], ?_⟩
      exact (((h7.setCell (by show w.heap.size ≤ w.heap.size + 1 + 1; omega) _).setCell (by show w.heap.size ≤ w.heap.size + 1 + 1 + 1; omega) _).grown hg (by have := h7.size; simp; omega) (fun k e => by cases e; exact hD2))
theorem walk.calls2 (k k0 Bs : Nat) (A : Option Addr) (cap : Nat) (zs : List Int) (Aw : Option Addr) (cw : Nat) (lw : List Int) (L : Nat) (s : Int) (w : World) (m : Nat) (hlen : zs.length < 1099511627776) (hL : nat_Len.f k0 zs = some (L : Int)) (hLz : L ≤ 64 * zs.length) (hbs : Boxed w Bs 23 (.slice A zs.length cap)) (hcap : zs.length ≤ cap) (hC : Kd.C (Kd.int .u64) w A zs.length zs) (hW : Kd.C (Kd.int .i64) w Aw lw.length lw) (hcw : lw.length ≤ cw) (hrl : latchkeyref01_Len.f k lw = some (L : Int)) (hbit : ∀ i : Nat, i < L → latchkeyref01_Bit.f lw (i : Int) = some (if bitOf zs i = true then 1 else 0)) (hs0 : -1 ≤ s) (hs1 : s < 65536) (hm : walkTo s L = m) :
    Calls Try.prog 15 #[.func (.func 44) #[] #[.pointer (some ⟨Bs, 0, none⟩)], .slice Aw lw.length cw, .int .i64 s] w fun e w' => e = .returned (.tuple #[.int .i64 m, .bool true]) ∧ Below w.heap.size w w' := by
  subst hm
  exact walk.calls k k0 Bs A cap zs Aw cw lw L s w hlen hL hLz hbs hcap hC hW hcw hrl hbit hs0 hs1
/-- What of the row is asked ahead of the walks. -/
def NBok (k : Nat) (l0 x : List Int) (n : Int) : Bool := decide (l0.length < 1099511627776) && decide (0 ≤ n) && decide (n ≤ 64 * l0.length) && (nat_Len.f k l0 == some n) && (List.range n.toNat).all fun i => latchkeyref01_Bit.f x (i : Int) == some (if bitOf l0 i = true then 1 else 0)
def latchkeylaw01_NatBits.f (k : Nat) (l0 : List Int) (a1 : Int) : Option Bool := (latchkeylaw01_Awake.f k).bind fun aw => if aw = true then (latchkeylaw01_long.f k [l0]).bind fun u => if u = true then some true else (latchkeyref01_Of.f k l0).bind fun x => (latchkeyref01_Len.f k x).bind fun n => if NBok k l0 x n = true then some true else none else none
theorem u16_wf {x : Int} (h : (Lit.int .u16 x).wf = true) : 0 ≤ x ∧ x < 65536 := by
  simp [Lit.wf, IntKind.min, IntKind.max, IntKind.signed, IntKind.bits] at h
  omega
set_option maxHeartbeats 4000000 in
set_option maxRecDepth 100000 in
theorem latchkeylaw01_NatBits.calls (k : Nat) (A0 : Option Addr) (c0 : Nat) (l0 : List Int) (a1 : Int) (w : World) (hr_l0 : Kd.C (Kd.int .u64) w A0 l0.length l0) (hc_l0 : l0.length ≤ c0) (w1 : (Lit.int .u16 a1).wf = true) (h : latchkeylaw01_NatBits.f k l0 a1 = some true) :
    Calls Try.prog 3 #[.slice A0 l0.length c0, .int .u16 a1] w fun e w' => e = .returned (.bool true) ∧ Below w.heap.size w w' := by
  obtain ⟨hk0, hk1⟩ := u16_wf w1
  obtain ⟨aw, h0, h⟩ := Option.bind_eq_some_iff.mp h
  obtain ⟨rfl, h⟩ := bool_ite h
  have HA := Aside0.mk h0
  obtain ⟨u, h1, h⟩ := Option.bind_eq_some_iff.mp h
  have HU := Aside0.mk h1
  clear h0 h1
  have HR_l0 := Aside0.mk hr_l0
  clear hr_l0
  cases u with
  | true =>
    clear h
    go_enter Try.func3, Try.ntmps3
    go_wp2_with (first
      | (go_at_call 10; (with_reducible refine (latchkeylaw01_Awake.calls k  true _  HA.out).mono ?_); rintro e wa ⟨rfl, hb⟩; have HBa := Aside0.mk hb; clear hb)
      | (go_at_call 11; refine (latchkeylaw01_long.calls k _ _ [l0] true _ ?s0 ?c0 HU.out).mono ?_; (case s0 => exact C_rows _ [.slice A0 l0.length c0] (World.alloc_heap_new _ _) rfl (by simp) (all_cons (RowAt.mk (by assumption) (by repeat (first | with_reducible exact Aside0.out (by assumption) | with_reducible refine Kd.C_alloc ?_ _ | with_reducible refine Kd.C_drewN ?_ _ | with_reducible refine Kd.C_drew ?_ | refine Kd.C_below ?_ (Aside0.out (by assumption))))) all_nil)); (case c0 => exact Nat.le_refl _); rintro e wl ⟨rfl, hq⟩; have HBl := Aside0.mk (by first | exact below_drawn0 hq | exact hq); clear hq))
    go_ret
    exact ⟨rfl, (by repeat (first | with_reducible exact Below.refl _ _ | with_reducible exact Aside0.out (by assumption) | with_reducible refine below_alloc ?_ _ | with_reducible refine pw_below_drewN ?_ _ | with_reducible refine below_drew1 ?_ | refine below_step ?_ (Aside0.out (by assumption))))⟩
  | false =>
    replace h := (if_neg Bool.false_ne_true).symm.trans h
    obtain ⟨x, h0, h⟩ := Option.bind_eq_some_iff.mp h
    have HX := Aside0.mk h0
    obtain ⟨n, h1, h⟩ := Option.bind_eq_some_iff.mp h
    obtain ⟨hok, -⟩ := bool_ite h
    unfold NBok at hok
    simp only [Bool.and_eq_true, decide_eq_true_eq, List.all_eq_true, List.mem_range, beq_iff_eq] at hok
    obtain ⟨⟨⟨⟨hlen, hn0⟩, hnz⟩, hln⟩, hbt⟩ := hok
    obtain ⟨L, rfl⟩ := Int.eq_ofNat_of_zero_le hn0
    rw [Int.toNat_natCast] at hbt
    have hLz : L ≤ 64 * l0.length := by omega
    have hL1 : (L : Int) ≤ 70368744177664 := by omega
    have HRL := Aside0.mk h1
    have HLn := Aside0.mk hln
    have HBT := Aside0.mk hbt
    clear h h0 h1 hbt hln
    have hk2 : -1 ≤ a1 := by omega
    have HM1 := Aside0.mk (show walkTo (-1) L = L from by unfold walkTo; rw [if_neg (by omega)])
    have hwt : ∃ m, walkTo a1 L = m := ⟨_, rfl⟩
    obtain ⟨m, hm⟩ := hwt
    have HM := Aside0.mk hm
    have hLL : ((L : Int) != (L : Int)) = false := by simp
    by_cases hc1 : 0 < a1 ∧ a1 < L
    · obtain ⟨hc2, hc3⟩ := hc1
      have hmm : ((m : Int) == a1) = true := by unfold walkTo at hm; rw [if_pos ⟨by omega, by omega⟩] at hm; rw [beq_iff_eq]; omega
      clear hm
      go_enter Try.func3, Try.ntmps3
      go_wp2_with (first
        | (go_at_call 10; (with_reducible refine (latchkeylaw01_Awake.calls k  true _  HA.out).mono ?_); rintro e wa ⟨rfl, hb⟩; have HBa := Aside0.mk hb; clear hb)
        | (go_at_call 11; refine (latchkeylaw01_long.calls k _ _ [l0] false _ ?s0 ?c0 HU.out).mono ?_; (case s0 => exact C_rows _ [.slice A0 l0.length c0] (World.alloc_heap_new _ _) rfl (by simp) (all_cons (RowAt.mk (by assumption) (by repeat (first | with_reducible exact Aside0.out (by assumption) | with_reducible refine Kd.C_alloc ?_ _ | with_reducible refine Kd.C_drewN ?_ _ | with_reducible refine Kd.C_drew ?_ | refine Kd.C_below ?_ (Aside0.out (by assumption))))) all_nil)); (case c0 => exact Nat.le_refl _); rintro e wl ⟨rfl, hq⟩; have HBl := Aside0.mk (by first | exact below_drawn0 hq | exact hq); clear hq)
        | (go_at_call 12; (with_reducible refine (latchkeyref01_Of.calls k _ _ l0 x _ ?s0 ?c0 HX.out).mono ?_); (case s0 => exact (by repeat (first | with_reducible exact Aside0.out (by assumption) | with_reducible refine Kd.C_alloc ?_ _ | with_reducible refine Kd.C_drewN ?_ _ | with_reducible refine Kd.C_drew ?_ | refine Kd.C_below ?_ (Aside0.out (by assumption))))); (case c0 => assumption); rintro e w3 ⟨v, rfl, ho, hb⟩; obtain ⟨A3, c3, rfl⟩ := Kd.R_slice ho; have HC3 := Aside0.mk (Kd.R_reads' ho).2.2; have hc3 := (Kd.R_reads' ho).2.1; have HB3 := Aside0.mk hb; have HO3 := Aside0.mk ho; clear hb ho)
        | (go_at_call 13; (with_reducible refine (Bits_in A0 l0.length c0 _).mono ?_); rintro e wb ⟨rfl, rfl⟩; have HX_b := Aside0.mk (Boxed.new w3 23 (.slice A0 l0.length c0)))
        | (go_at_call 14; (with_reducible refine (latchkeyref01_Len.calls k _ _ x (L : Int) _ ?s0 ?c0 HRL.out).mono ?_); (case s0 => exact (by repeat (first | with_reducible exact Aside0.out (by assumption) | with_reducible refine Kd.C_alloc ?_ _ | with_reducible refine Kd.C_drewN ?_ _ | with_reducible refine Kd.C_drew ?_ | refine Kd.C_below ?_ (Aside0.out (by assumption))))); (case c0 => assumption); rintro e w5 ⟨rfl, hq⟩; have HB5 := Aside0.mk (by first | exact below_drawn0 hq | exact hq); clear hq)
        | (go_at_call 15; (with_reducible refine (walk.calls2 k k w3.heap.size A0 c0 l0 _ _ x L a1 _ m hlen HLn.out hLz ?b0 ?c0 ?s0 ?s1 ?c1 HRL.out HBT.out hk2 hk1 HM.out).mono ?_); (case b0 => exact (by repeat (first | with_reducible exact Aside0.out (by assumption) | with_reducible refine Boxed.alloc ?_ _ | with_reducible refine Boxed.drewN ?_ _ | with_reducible refine Boxed.drew ?_ | refine box_step ?_ (Aside0.out (by assumption))))); (case c0 => assumption); (case s0 => exact (by repeat (first | with_reducible exact Aside0.out (by assumption) | with_reducible refine Kd.C_alloc ?_ _ | with_reducible refine Kd.C_drewN ?_ _ | with_reducible refine Kd.C_drew ?_ | refine Kd.C_below ?_ (Aside0.out (by assumption))))); (case s1 => exact (by repeat (first | with_reducible exact Aside0.out (by assumption) | with_reducible refine Kd.C_alloc ?_ _ | with_reducible refine Kd.C_drewN ?_ _ | with_reducible refine Kd.C_drew ?_ | refine Kd.C_below ?_ (Aside0.out (by assumption))))); (case c1 => assumption); rintro e w6 ⟨rfl, hb⟩; have HB6 := Aside0.mk hb; clear hb)
        | (go_at_call 15; (with_reducible refine (walk.calls2 k k w3.heap.size A0 c0 l0 _ _ x L (-1) _ L hlen HLn.out hLz ?b0 ?c0 ?s0 ?s1 ?c1 HRL.out HBT.out (by decide) (by decide) HM1.out).mono ?_); (case b0 => exact (by repeat (first | with_reducible exact Aside0.out (by assumption) | with_reducible refine Boxed.alloc ?_ _ | with_reducible refine Boxed.drewN ?_ _ | with_reducible refine Boxed.drew ?_ | refine box_step ?_ (Aside0.out (by assumption))))); (case c0 => assumption); (case s0 => exact (by repeat (first | with_reducible exact Aside0.out (by assumption) | with_reducible refine Kd.C_alloc ?_ _ | with_reducible refine Kd.C_drewN ?_ _ | with_reducible refine Kd.C_drew ?_ | refine Kd.C_below ?_ (Aside0.out (by assumption))))); (case s1 => exact (by repeat (first | with_reducible exact Aside0.out (by assumption) | with_reducible refine Kd.C_alloc ?_ _ | with_reducible refine Kd.C_drewN ?_ _ | with_reducible refine Kd.C_drew ?_ | refine Kd.C_below ?_ (Aside0.out (by assumption))))); (case c1 => assumption); rintro e w7 ⟨rfl, hb⟩; have HB7 := Aside0.mk hb; clear hb))
      go_ret
      exact ⟨rfl, (by repeat (first | with_reducible exact Below.refl _ _ | with_reducible exact Aside0.out (by assumption) | with_reducible refine below_alloc ?_ _ | with_reducible refine pw_below_drewN ?_ _ | with_reducible refine below_drew1 ?_ | refine below_step ?_ (Aside0.out (by assumption))))⟩
    · have hmm : ((m : Int) == (L : Int)) = true := by
        unfold walkTo at hm
        rw [beq_iff_eq]
        split at hm <;> omega
      clear hm
      by_cases hc2 : 0 < a1
      · have hc3 : ¬ a1 < L := fun e => hc1 ⟨hc2, e⟩
        clear hc1
        go_enter Try.func3, Try.ntmps3
        go_wp2_with (first
          | (go_at_call 10; (with_reducible refine (latchkeylaw01_Awake.calls k  true _  HA.out).mono ?_); rintro e wa ⟨rfl, hb⟩; have HBa := Aside0.mk hb; clear hb)
          | (go_at_call 11; refine (latchkeylaw01_long.calls k _ _ [l0] false _ ?s0 ?c0 HU.out).mono ?_; (case s0 => exact C_rows _ [.slice A0 l0.length c0] (World.alloc_heap_new _ _) rfl (by simp) (all_cons (RowAt.mk (by assumption) (by repeat (first | with_reducible exact Aside0.out (by assumption) | with_reducible refine Kd.C_alloc ?_ _ | with_reducible refine Kd.C_drewN ?_ _ | with_reducible refine Kd.C_drew ?_ | refine Kd.C_below ?_ (Aside0.out (by assumption))))) all_nil)); (case c0 => exact Nat.le_refl _); rintro e wl ⟨rfl, hq⟩; have HBl := Aside0.mk (by first | exact below_drawn0 hq | exact hq); clear hq)
          | (go_at_call 12; (with_reducible refine (latchkeyref01_Of.calls k _ _ l0 x _ ?s0 ?c0 HX.out).mono ?_); (case s0 => exact (by repeat (first | with_reducible exact Aside0.out (by assumption) | with_reducible refine Kd.C_alloc ?_ _ | with_reducible refine Kd.C_drewN ?_ _ | with_reducible refine Kd.C_drew ?_ | refine Kd.C_below ?_ (Aside0.out (by assumption))))); (case c0 => assumption); rintro e w3 ⟨v, rfl, ho, hb⟩; obtain ⟨A3, c3, rfl⟩ := Kd.R_slice ho; have HC3 := Aside0.mk (Kd.R_reads' ho).2.2; have hc3 := (Kd.R_reads' ho).2.1; have HB3 := Aside0.mk hb; have HO3 := Aside0.mk ho; clear hb ho)
          | (go_at_call 13; (with_reducible refine (Bits_in A0 l0.length c0 _).mono ?_); rintro e wb ⟨rfl, rfl⟩; have HX_b := Aside0.mk (Boxed.new w3 23 (.slice A0 l0.length c0)))
          | (go_at_call 14; (with_reducible refine (latchkeyref01_Len.calls k _ _ x (L : Int) _ ?s0 ?c0 HRL.out).mono ?_); (case s0 => exact (by repeat (first | with_reducible exact Aside0.out (by assumption) | with_reducible refine Kd.C_alloc ?_ _ | with_reducible refine Kd.C_drewN ?_ _ | with_reducible refine Kd.C_drew ?_ | refine Kd.C_below ?_ (Aside0.out (by assumption))))); (case c0 => assumption); rintro e w5 ⟨rfl, hq⟩; have HB5 := Aside0.mk (by first | exact below_drawn0 hq | exact hq); clear hq)
          | (go_at_call 15; (with_reducible refine (walk.calls2 k k w3.heap.size A0 c0 l0 _ _ x L a1 _ m hlen HLn.out hLz ?b0 ?c0 ?s0 ?s1 ?c1 HRL.out HBT.out hk2 hk1 HM.out).mono ?_); (case b0 => exact (by repeat (first | with_reducible exact Aside0.out (by assumption) | with_reducible refine Boxed.alloc ?_ _ | with_reducible refine Boxed.drewN ?_ _ | with_reducible refine Boxed.drew ?_ | refine box_step ?_ (Aside0.out (by assumption))))); (case c0 => assumption); (case s0 => exact (by repeat (first | with_reducible exact Aside0.out (by assumption) | with_reducible refine Kd.C_alloc ?_ _ | with_reducible refine Kd.C_drewN ?_ _ | with_reducible refine Kd.C_drew ?_ | refine Kd.C_below ?_ (Aside0.out (by assumption))))); (case s1 => exact (by repeat (first | with_reducible exact Aside0.out (by assumption) | with_reducible refine Kd.C_alloc ?_ _ | with_reducible refine Kd.C_drewN ?_ _ | with_reducible refine Kd.C_drew ?_ | refine Kd.C_below ?_ (Aside0.out (by assumption))))); (case c1 => assumption); rintro e w6 ⟨rfl, hb⟩; have HB6 := Aside0.mk hb; clear hb)
          | (go_at_call 15; (with_reducible refine (walk.calls2 k k w3.heap.size A0 c0 l0 _ _ x L (-1) _ L hlen HLn.out hLz ?b0 ?c0 ?s0 ?s1 ?c1 HRL.out HBT.out (by decide) (by decide) HM1.out).mono ?_); (case b0 => exact (by repeat (first | with_reducible exact Aside0.out (by assumption) | with_reducible refine Boxed.alloc ?_ _ | with_reducible refine Boxed.drewN ?_ _ | with_reducible refine Boxed.drew ?_ | refine box_step ?_ (Aside0.out (by assumption))))); (case c0 => assumption); (case s0 => exact (by repeat (first | with_reducible exact Aside0.out (by assumption) | with_reducible refine Kd.C_alloc ?_ _ | with_reducible refine Kd.C_drewN ?_ _ | with_reducible refine Kd.C_drew ?_ | refine Kd.C_below ?_ (Aside0.out (by assumption))))); (case s1 => exact (by repeat (first | with_reducible exact Aside0.out (by assumption) | with_reducible refine Kd.C_alloc ?_ _ | with_reducible refine Kd.C_drewN ?_ _ | with_reducible refine Kd.C_drew ?_ | refine Kd.C_below ?_ (Aside0.out (by assumption))))); (case c1 => assumption); rintro e w7 ⟨rfl, hb⟩; have HB7 := Aside0.mk hb; clear hb))
        go_ret
        exact ⟨rfl, (by repeat (first | with_reducible exact Below.refl _ _ | with_reducible exact Aside0.out (by assumption) | with_reducible refine below_alloc ?_ _ | with_reducible refine pw_below_drewN ?_ _ | with_reducible refine below_drew1 ?_ | refine below_step ?_ (Aside0.out (by assumption))))⟩
      · clear hc1
        go_enter Try.func3, Try.ntmps3
        go_wp2_with (first
          | (go_at_call 10; (with_reducible refine (latchkeylaw01_Awake.calls k  true _  HA.out).mono ?_); rintro e wa ⟨rfl, hb⟩; have HBa := Aside0.mk hb; clear hb)
          | (go_at_call 11; refine (latchkeylaw01_long.calls k _ _ [l0] false _ ?s0 ?c0 HU.out).mono ?_; (case s0 => exact C_rows _ [.slice A0 l0.length c0] (World.alloc_heap_new _ _) rfl (by simp) (all_cons (RowAt.mk (by assumption) (by repeat (first | with_reducible exact Aside0.out (by assumption) | with_reducible refine Kd.C_alloc ?_ _ | with_reducible refine Kd.C_drewN ?_ _ | with_reducible refine Kd.C_drew ?_ | refine Kd.C_below ?_ (Aside0.out (by assumption))))) all_nil)); (case c0 => exact Nat.le_refl _); rintro e wl ⟨rfl, hq⟩; have HBl := Aside0.mk (by first | exact below_drawn0 hq | exact hq); clear hq)
          | (go_at_call 12; (with_reducible refine (latchkeyref01_Of.calls k _ _ l0 x _ ?s0 ?c0 HX.out).mono ?_); (case s0 => exact (by repeat (first | with_reducible exact Aside0.out (by assumption) | with_reducible refine Kd.C_alloc ?_ _ | with_reducible refine Kd.C_drewN ?_ _ | with_reducible refine Kd.C_drew ?_ | refine Kd.C_below ?_ (Aside0.out (by assumption))))); (case c0 => assumption); rintro e w3 ⟨v, rfl, ho, hb⟩; obtain ⟨A3, c3, rfl⟩ := Kd.R_slice ho; have HC3 := Aside0.mk (Kd.R_reads' ho).2.2; have hc3 := (Kd.R_reads' ho).2.1; have HB3 := Aside0.mk hb; have HO3 := Aside0.mk ho; clear hb ho)
          | (go_at_call 13; (with_reducible refine (Bits_in A0 l0.length c0 _).mono ?_); rintro e wb ⟨rfl, rfl⟩; have HX_b := Aside0.mk (Boxed.new w3 23 (.slice A0 l0.length c0)))
          | (go_at_call 14; (with_reducible refine (latchkeyref01_Len.calls k _ _ x (L : Int) _ ?s0 ?c0 HRL.out).mono ?_); (case s0 => exact (by repeat (first | with_reducible exact Aside0.out (by assumption) | with_reducible refine Kd.C_alloc ?_ _ | with_reducible refine Kd.C_drewN ?_ _ | with_reducible refine Kd.C_drew ?_ | refine Kd.C_below ?_ (Aside0.out (by assumption))))); (case c0 => assumption); rintro e w5 ⟨rfl, hq⟩; have HB5 := Aside0.mk (by first | exact below_drawn0 hq | exact hq); clear hq)
          | (go_at_call 15; (with_reducible refine (walk.calls2 k k w3.heap.size A0 c0 l0 _ _ x L a1 _ m hlen HLn.out hLz ?b0 ?c0 ?s0 ?s1 ?c1 HRL.out HBT.out hk2 hk1 HM.out).mono ?_); (case b0 => exact (by repeat (first | with_reducible exact Aside0.out (by assumption) | with_reducible refine Boxed.alloc ?_ _ | with_reducible refine Boxed.drewN ?_ _ | with_reducible refine Boxed.drew ?_ | refine box_step ?_ (Aside0.out (by assumption))))); (case c0 => assumption); (case s0 => exact (by repeat (first | with_reducible exact Aside0.out (by assumption) | with_reducible refine Kd.C_alloc ?_ _ | with_reducible refine Kd.C_drewN ?_ _ | with_reducible refine Kd.C_drew ?_ | refine Kd.C_below ?_ (Aside0.out (by assumption))))); (case s1 => exact (by repeat (first | with_reducible exact Aside0.out (by assumption) | with_reducible refine Kd.C_alloc ?_ _ | with_reducible refine Kd.C_drewN ?_ _ | with_reducible refine Kd.C_drew ?_ | refine Kd.C_below ?_ (Aside0.out (by assumption))))); (case c1 => assumption); rintro e w6 ⟨rfl, hb⟩; have HB6 := Aside0.mk hb; clear hb)
          | (go_at_call 15; (with_reducible refine (walk.calls2 k k w3.heap.size A0 c0 l0 _ _ x L (-1) _ L hlen HLn.out hLz ?b0 ?c0 ?s0 ?s1 ?c1 HRL.out HBT.out (by decide) (by decide) HM1.out).mono ?_); (case b0 => exact (by repeat (first | with_reducible exact Aside0.out (by assumption) | with_reducible refine Boxed.alloc ?_ _ | with_reducible refine Boxed.drewN ?_ _ | with_reducible refine Boxed.drew ?_ | refine box_step ?_ (Aside0.out (by assumption))))); (case c0 => assumption); (case s0 => exact (by repeat (first | with_reducible exact Aside0.out (by assumption) | with_reducible refine Kd.C_alloc ?_ _ | with_reducible refine Kd.C_drewN ?_ _ | with_reducible refine Kd.C_drew ?_ | refine Kd.C_below ?_ (Aside0.out (by assumption))))); (case s1 => exact (by repeat (first | with_reducible exact Aside0.out (by assumption) | with_reducible refine Kd.C_alloc ?_ _ | with_reducible refine Kd.C_drewN ?_ _ | with_reducible refine Kd.C_drew ?_ | refine Kd.C_below ?_ (Aside0.out (by assumption))))); (case c1 => assumption); rintro e w7 ⟨rfl, hb⟩; have HB7 := Aside0.mk hb; clear hb))
        go_ret
        exact ⟨rfl, (by repeat (first | with_reducible exact Below.refl _ _ | with_reducible exact Aside0.out (by assumption) | with_reducible refine below_alloc ?_ _ | with_reducible refine pw_below_drewN ?_ _ | with_reducible refine below_drew1 ?_ | refine below_step ?_ (Aside0.out (by assumption))))⟩

/-- THE ONE PURE STATEMENT of latchkeylaw01_NatBits. -/
def latchkeylaw01_NatBits.Pure : Prop := ∀ (l0 : List Int) (a1 : Int), l0.length ≤ maxLen → l0.length * 8 ≤ 140737488351232 → (∀ x ∈ l0, (Lit.int .u64 x).wf = true) → (Lit.int .u16 a1).wf = true → ∃ k, latchkeylaw01_NatBits.f k l0 a1 = some true
theorem latchkeylaw01_NatBits.walk (P : latchkeylaw01_NatBits.Pure) (a0 : Option Addr) (len0 cap0 : Nat) (z0 : List Int) (a1 : Int) (w : World) (w0 : (a0 = none ∧ len0 = 0 ∧ cap0 = 0 ∧ z0 = []) ∨ ∃ x, a0 = some x ∧ len0 ≤ cap0 ∧ cap0 ≤ maxLen ∧ z0.length = cap0 ∧ (∀ i, i < z0.length → w.cell? (x.add i) = some (.int .u64 (z0.getD i 0))) ∧ ∀ n ∈ z0, (Lit.int .u64 n).wf = true) (y0 : len0 * 8 ≤ 140737488351232) (w1 : (Lit.int .u16 a1).wf = true) :
    Calls Try.prog 3 #[.slice a0 len0 cap0, .int .u16 a1] w fun e w' => e = .returned (.bool true) ∧ Below w.heap.size w w' := by
  obtain ⟨l0, rfl, hr0, hm0, hw0, hc0⟩ := ReadsInt.ofRowC w0
  obtain ⟨k, h⟩ := P l0 a1 hm0 y0 hw0 w1
  exact latchkeylaw01_NatBits.calls k _ _ l0 a1 w (Kd.C_of_reads (d := (0 : Int)) (h1 := fun _ => rfl) hr0) hc0 w1 h

end Go.Proofs.Ytgnaaaliadiekaa.B
