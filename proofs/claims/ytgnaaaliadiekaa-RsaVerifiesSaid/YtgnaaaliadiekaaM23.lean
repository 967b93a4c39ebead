/- A part of the proof (merged by pack.py, a program of this session: what the row's proof names). -/
import Derived.Test.YtgnaaaliadiekaaM4
import Derived.Test.YtgnaaaliadiekaaM13
import Derived.Test.YtgnaaaliadiekaaM0
section
namespace Go.Proofs.Ytgnaaaliadiekaa.B
open Go.RowKit Go.Proofs.YtgnaaaliadiekaaW.PrintWords Go.Proofs.YtgnaaaliadiekaaW.PrintLast Go.Proofs.YtgnaaaliadiekaaW.PrintMore
attribute [local go_sem] ycj ych ycs ycr ybw ybv yci ycg   -- for this text's walks alone
attribute [local go_sem] yca ybn ybz ybm
set_option linter.unusedVariables false
set_option linter.unusedSimpArgs false
def ybd.f (k : Nat) (l0_0 : List Int) (l0_1 : List Int) : Option (Int) := (yah.f k l0_0).bind fun t1002 => ((yaq.f k t1002).bind fun t1005 => (some (wrap64 (Int.tdiv (wrap64 (t1005 + 7)) 8))))
set_option maxHeartbeats 8000000 in
set_option maxRecDepth 100000 in
theorem ybd.calls (k : Nat) (A0_0 : Option Addr) (c0_0 : Nat) (l0_0 : List Int) (A0_1 : Option Addr) (c0_1 : Nat) (l0_1 : List Int) (r : Int) (w : World) (hr0_0 : Kd.C (Kd.int .u64) w A0_0 l0_0.length l0_0) (hc0_0 : l0_0.length ≤ c0_0) (hr0_1 : Kd.C (Kd.int .u64) w A0_1 l0_1.length l0_1) (hc0_1 : l0_1.length ≤ c0_1) (h : ybd.f k l0_0 l0_1 = some r) :
 Calls Try.prog 29 #[.agg #[.slice A0_0 l0_0.length c0_0, .slice A0_1 l0_1.length c0_1]] w fun e w' => e = .returned (.int .i64 r) ∧ Below w.heap.size w w' := by
 have hu47 := Try.underlying47
 have HR0_0 := Aside0.mk hr0_0
 have HC0_0 := Aside0.mk hc0_0
 clear hr0_0 hc0_0
 have HR0_1 := Aside0.mk hr0_1
 have HC0_1 := Aside0.mk hc0_1
 clear hr0_1 hc0_1
 have HB := Aside0.mk (Below.refl w.heap.size w)
 have H : ((yah.f k l0_0).bind fun t1002 => ((yaq.f k t1002).bind fun t1005 => (some (wrap64 (Int.tdiv (wrap64 (t1005 + 7)) 8))))) = some r := h
 clear h
 replace H := Option.bind_eq_some_iff.mp H
 obtain ⟨t1002, A20, H⟩ := H
 replace H : ((yaq.f k t1002).bind fun t1005 => (some (wrap64 (Int.tdiv (wrap64 (t1005 + 7)) 8)))) = some r := H
 have A2 := Aside0.mk A20
 clear A20
 replace H := Option.bind_eq_some_iff.mp H
 obtain ⟨t1005, A30, H⟩ := H
 replace H : (some (wrap64 (Int.tdiv (wrap64 (t1005 + 7)) 8))) = some r := H
 have A3 := Aside0.mk A30
 clear A30
 obtain rfl := Option.some.inj H
 go_enter Try.func29, Try.ntmps29
 go_wp2_with (first | ((with_reducible refine ybu (N := 1) rfl ?_); refine ydl ?hg (N := 1) ?hd (cs := #[.slice A0_0 l0_0.length c0_0, .slice A0_1 l0_1.length c0_1]) (t := 47) ?hr ?_; (case hd => rfl); (case hg => rfl); (case hr => first | (go_simp; done) | (go_simp; rfl)); intro gb1001 hg w4 hbox hb; have n0_ := Aside0.mk (yai Z7_ hb); have n1_ := Aside0.mk (hbox); have n2_ := Aside0.mk ((by rw [hg]; exact (yaj Z7_) : w.heap.size ≤ gb1001)); have n3_ := Aside0.mk ((by rw [hg]; exact (yaj Z7_) : w.heap.size ≤ gb1001)); clear HB; have HB := n0_; have BK1001 := n1_; have GW1001 := n2_; have GE1001 := n3_; clear n0_ n1_ n2_ n3_; clear hb hbox hg; have hcz5_0 : w4.cell? ⟨gb1001, 0, none⟩ = some (.slice A0_0 l0_0.length c0_0) := (yaa BK1001.out 0).trans rfl; have hcz5_1 : w4.cell? ⟨gb1001, 1, none⟩ = some (.slice A0_1 l0_1.length c0_1) := (yaa BK1001.out 1).trans rfl; have hfz5_0 := ybo BK1001.out 0; have hfz5_1 := ybo BK1001.out 1) | ((with_reducible refine yar (f := 12) rfl ?_); refine yce (some 5) rfl rfl Try.func12 (by kernel_rfl) rfl #[.slice A0_0 l0_0.length c0_0] rfl Z6_ ?_; (with_reducible refine (yah.calls k _ _ l0_0 t1002 _ ?side1 ?side2 A2.out).mono ?_); (case side1 => repeat (first | exact (Kd.ybg HR0_0.out HB.out) | (with_reducible refine Kd.yau ?_ _) | (with_reducible refine Kd.yaw ?_ _) | (with_reducible refine Kd.ybe ?_))); (case side2 => exact HC0_0.out); rintro e w6 ⟨v1003, rfl, ho0, hb⟩; refine ⟨_, rfl, ?_⟩; have n0_ := Aside0.mk (Kd.ybl ho0 (yaj Z5_)); have n1_ := Aside0.mk (ybq (g := gb1001) (o := .cells #[.slice A0_0 l0_0.length c0_0, .slice A0_1 l0_1.length c0_1] 47 (0, 0)) Z8_ hb); have n2_ := Aside0.mk (yai Z5_ hb); clear BK1001; clear HB; have HO1004 := n0_; have BK1001 := n1_; have HB := n2_; clear n0_ n1_ n2_; (try clear hb); (try clear hb2); (try clear hk); (try clear hi); (try clear ho0); obtain ⟨Ao7, co7, eo7⟩ := Kd.ybc HO1004.out; subst eo7) | ((with_reducible refine yar (f := 14) rfl ?_); refine yce (some 6) rfl rfl Try.func14 (by kernel_rfl) rfl #[.slice Ao7 t1002.length co7] rfl Z6_ ?_; (with_reducible refine (yaq.calls k _ _ t1002 t1005 _ ?side1 ?side2 A3.out).mono ?_); (case side1 => repeat (first | exact (Kd.R_reads' HO1004.out).2.2 | (with_reducible refine Kd.yau ?_ _) | (with_reducible refine Kd.yaw ?_ _) | (with_reducible refine Kd.ybe ?_))); (case side2 => exact (Kd.R_reads' HO1004.out).2.1); rintro e w' ⟨rfl, ⟨nd, rfl⟩⟩; refine ⟨_, rfl, ?_⟩))
 go_ret
 exact ⟨by first | rfl | (simp [yap, yao] <;> rfl) | (simp [*, yap, yao] <;> rfl), by repeat (first | (with_reducible first | exact HB.out | apply yad | apply yab | apply yac | refine ybx ?_ GE1001.out) | exact HB.out)⟩
end Go.Proofs.Ytgnaaaliadiekaa.B
end
