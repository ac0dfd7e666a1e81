-- written by a program of this session, a changed copy of the kit print
import Derived.Test.YtbiempkdfnfpgaaPAx0
import Derived.Test.YtbiempkdfnfpgaaPAx1
import Derived.Test.YtbiempkdfnfpgaaPAx3
import Derived.Test.YtbiempkdfnfpgaaPAx4
import Derived.Test.YtbiempkdfnfpgaaPAx5
import Derived.Test.YtbiempkdfnfpgaaPAx7
import Derived.Test.YtbiempkdfnfpgaaPAx8
import Derived.Test.YtbiempkdfnfpgaaQ
namespace Go.Proofs.Ytbiempkdfnfpgaa.PA
open Go.RowKit Go.Proofs.YtbiempkdfnfpgaaW.PrintWords Go.Proofs.YtbiempkdfnfpgaaW.PrintLast Go.Proofs.YtbiempkdfnfpgaaW.PrintMore Go.Proofs.Ytbiempkdfnfpgaa.Q
attribute [local go_sem] Instr.field asAgg part isAgg max2_int min2_int max_two min_two max_three min_three max_four min_four   -- for this text's walks alone
set_option linter.unusedVariables false
set_option linter.unusedSimpArgs false

attribute [local go_sem high] eqA34
/-! ### fan_At: function 16 -/
def fan_At.f (k : Nat) (a0_0 : Int) (a0_1 : Bool) (a0_2 : Bool) (l0_3 : List (S42)) (a1 : Int) (a2 : Int) : Option (Int × Int) := (fan_Check.f k a0_0 a0_1 a0_2 l0_3).bind fun t204 => (if t204 = 0 then (if a1 < (-1) then (some (0, 0)) else (if a1 > 2 then (some (0, 0)) else (if a2 < (-1048577) then (some (0, 0)) else (if a2 > 1048577 then (some (0, 0)) else ((fan_Sure.f k a0_0 a0_1 a0_2 l0_3 a1 a2).bind fun bt205 => (some (bt205.1, bt205.2))))))) else (some (0, 0)))
theorem fan_At.mono : ∀ a0 a1 a2 a3 a4 a5 k, LeO (fan_At.f k a0 a1 a2 a3 a4 a5) (fan_At.f (k + 1) a0 a1 a2 a3 a4 a5) := by
 intro a0 a1 a2 a3 a4 a5 k
 unfold fan_At.f
 repeat' first
   | (with_reducible exact fan_Check.mono _ _ _ _ _)
   | (with_reducible exact fan_Sure.mono _ _ _ _ _ _ _)
   | (with_reducible exact LeO.refl _)
   | (with_reducible exact LeO.none _)
   | (with_reducible refine LeO.ite ?_ ?_)
   | (with_reducible refine LeO.bind ?_ (fun _ => ?_))
   | exact fan_Check.mono _ _ _ _ _
   | exact fan_Sure.mono _ _ _ _ _ _ _
   | exact LeO.none _
   | refine LeO.ite ?_ ?_
   | refine LeO.bind ?_ (fun _ => ?_)
set_option maxHeartbeats 8000000 in
set_option maxRecDepth 100000 in
theorem fan_At.calls (k : Nat) (a0_0 : Int) (a0_1 : Bool) (a0_2 : Bool) (A0_3 : Option Addr) (c0_3 : Nat) (l0_3 : List (S42)) (a1 : Int) (a2 : Int) (r1 : Int) (r2 : Int) (w : World) (hr0_3 : Kd.C k42 w A0_3 l0_3.length l0_3) (hc0_3 : l0_3.length ≤ c0_3) (h : fan_At.f k a0_0 a0_1 a0_2 l0_3 a1 a2 = some (r1, r2)) :
  Calls Try.prog 16 #[.agg #[.int .i64 a0_0, .bool a0_1, .bool a0_2, .slice A0_3 l0_3.length c0_3], .int .i64 a1, .int .i64 a2] w fun e w' => e = .returned (.agg #[.int .i64 r1, .int .i64 r2]) ∧ Below w.heap.size w w' := by
 have hu25 := Try.underlying25
 have hu34 := Try.underlying34
 have HR0_3 := am hr0_3
 have HC0_3 := am hc0_3
 clear hr0_3 hc0_3
 have HB := am (Below.refl w.heap.size w)
 have H : ((fan_Check.f k a0_0 a0_1 a0_2 l0_3).bind fun t204 => (if t204 = 0 then (if a1 < (-1) then (some (0, 0)) else (if a1 > 2 then (some (0, 0)) else (if a2 < (-1048577) then (some (0, 0)) else (if a2 > 1048577 then (some (0, 0)) else ((fan_Sure.f k a0_0 a0_1 a0_2 l0_3 a1 a2).bind fun bt205 => (some (bt205.1, bt205.2))))))) else (some (0, 0)))) = some (r1, r2) := h
 clear h
 replace H := Option.bind_eq_some_iff.mp H
 obtain ⟨t204, A40, H⟩ := H
 replace H : (if t204 = 0 then (if a1 < (-1) then (some (0, 0)) else (if a1 > 2 then (some (0, 0)) else (if a2 < (-1048577) then (some (0, 0)) else (if a2 > 1048577 then (some (0, 0)) else ((fan_Sure.f k a0_0 a0_1 a0_2 l0_3 a1 a2).bind fun bt205 => (some (bt205.1, bt205.2))))))) else (some (0, 0))) = some (r1, r2) := H
 have A4 := am A40
 clear A40
 by_cases c5 : t204 = 0
 ·
  rw [if_pos c5] at H
  have c5b0 : (t204 == 0) = true := beq_iff_eq.mpr c5
  have c5b1 : (t204 != 0) = false := bne_eq_false_iff_eq.mpr c5
  clear c5
  by_cases c6 : a1 < (-1)
  ·
   rw [if_pos c6] at H
   have c6b0 : decide (a1 < (-1)) = true := decide_eq_true c6
   clear c6
   simp only [Option.some.injEq, Prod.mk.injEq] at H
   obtain ⟨rfl, rfl⟩ := H
   go_enter Try.func16, Try.ntmps16
   go_wp2_with (first | ((with_reducible refine gate_dst (N := 3) rfl ?_); refine xbox 3 (cs := #[.int .i64 a0_0, .bool a0_1, .bool a0_2, .slice A0_3 l0_3.length c0_3]) (t := 25) ?_; intro gb202 hg w7 hbox hb; have n0_ := am (below_step (xh HB) hb); have n1_ := am (hbox); have n2_ := am (xs hg HB); have n3_ := am (xs hg HB); clear HB; have HB := n0_; have BK202 := n1_; have GW202 := n2_; have GE202 := n3_; clear n0_ n1_ n2_ n3_; clear hb hbox hg) | ((with_reducible refine gate_dst (N := 6) rfl ?_); refine xbox 6 (cs := #[.int .i64 0, .int .i64 0]) (t := 34) ?_; intro gb203 hg w8 hbox hb; have n0_ := am (xw BK202 hb); have n1_ := am (below_step (xh HB) hb); have n2_ := am (hbox); have n3_ := am (xs hg HB); have n4_ := am (xs hg HB); have n5_ := am (xnl hg BK202); have n6_ := am (xng hg BK202); clear BK202; clear HB; have BK202 := n0_; have HB := n1_; have BK203 := n2_; have GW203 := n3_; have GE203 := n4_; have NB202_203 := n5_; have NB203_202 := n6_; clear n0_ n1_ n2_ n3_ n4_ n5_ n6_; clear hb hbox hg; have hnb9 := NB202_203.out; have hnc9 := NB203_202.out; have hcz10_0 : w8.cell? ⟨gb202, 0, none⟩ = some (.int .i64 a0_0) := (blk_cell BK202.out 0).trans rfl; have hcz10_1 : w8.cell? ⟨gb202, 1, none⟩ = some (.bool a0_1) := (blk_cell BK202.out 1).trans rfl; have hcz10_2 : w8.cell? ⟨gb202, 2, none⟩ = some (.bool a0_2) := (blk_cell BK202.out 2).trans rfl; have hcz10_3 : w8.cell? ⟨gb202, 3, none⟩ = some (.slice A0_3 l0_3.length c0_3) := (blk_cell BK202.out 3).trans rfl; have hfz10_0 := blk_frozen BK202.out 0; have hfz10_1 := blk_frozen BK202.out 1; have hfz10_2 := blk_frozen BK202.out 2; have hfz10_3 := blk_frozen BK202.out 3) | ((with_reducible refine gate_callee (f := 10) rfl ?_); refine goesL_ (some 8) rfl rfl Try.func10 (by kernel_rfl) rfl #[.agg #[.int .i64 a0_0, .bool a0_1, .bool a0_2, .slice A0_3 l0_3.length c0_3]] rfl xv ?_; (with_reducible refine (fan_Check.calls k a0_0 a0_1 a0_2 _ _ l0_3 t204 _ ?side1 ?side2 A4.out).mono ?_); (case side1 => exact xc2 (Kd.C_below HR0_3.out HB.out)); (case side2 => exact HC0_3.out); rintro e w11 ⟨rfl, hb⟩; refine ⟨_, rfl, ?_⟩; have n0_ := am (xw BK202 hb); have n1_ := am (xw BK203 hb); have n2_ := am (below_step (xh HB) hb); clear BK202; clear BK203; clear HB; have BK202 := n0_; have BK203 := n1_; have HB := n2_; clear n0_ n1_ n2_; (try clear hb); (try clear hb2); (try clear hk); (try clear hi); have hcz12_0 : w11.cell? ⟨gb203, 0, none⟩ = some (.int .i64 0) := (blk_cell BK203.out 0).trans rfl; have hcz12_1 : w11.cell? ⟨gb203, 1, none⟩ = some (.int .i64 0) := (blk_cell BK203.out 1).trans rfl; have hfz12_0 := blk_frozen BK203.out 0; have hfz12_1 := blk_frozen BK203.out 1))
   refine bodyPost_ret (results_cell_row rfl _ _ gb203 34 #[.int .i64 0, .int .i64 0] (0, 0) _ rfl (by (with_reducible repeat (first | refine blk_drewN ?_ _ | refine blk_drew ?_ | refine blk_alloc ?_ _)); refine blk_put (cs := #[.int .i64 0, .int .i64 0]) ?_ 1 _ rfl; (with_reducible repeat (first | refine blk_drewN ?_ _ | refine blk_drew ?_ | refine blk_alloc ?_ _)); refine blk_put (cs := #[.int .i64 0, .int .i64 0]) ?_ 0 _ rfl; (with_reducible repeat (first | refine blk_drewN ?_ _ | refine blk_drew ?_ | refine blk_alloc ?_ _)); exact BK203.out) Try.underlying34 rfl (by kernel_rfl)) rfl ?_
   exact ⟨by first | rfl | (simp [errW_none, errW_some] <;> rfl) | (simp [*, errW_none, errW_some] <;> rfl), xh HB⟩
  ·
   rw [if_neg c6] at H
   have c6b0 : decide (a1 < (-1)) = false := decide_eq_false c6
   clear c6
   by_cases c13 : a1 > 2
   ·
    rw [if_pos c13] at H
    have c13b0 : decide (2 < a1) = true := decide_eq_true c13
    clear c13
    simp only [Option.some.injEq, Prod.mk.injEq] at H
    obtain ⟨rfl, rfl⟩ := H
    go_enter Try.func16, Try.ntmps16
    go_wp2_with (first | ((with_reducible refine gate_dst (N := 3) rfl ?_); refine xbox 3 (cs := #[.int .i64 a0_0, .bool a0_1, .bool a0_2, .slice A0_3 l0_3.length c0_3]) (t := 25) ?_; intro gb202 hg w14 hbox hb; have n0_ := am (below_step (xh HB) hb); have n1_ := am (hbox); have n2_ := am (xs hg HB); have n3_ := am (xs hg HB); clear HB; have HB := n0_; have BK202 := n1_; have GW202 := n2_; have GE202 := n3_; clear n0_ n1_ n2_ n3_; clear hb hbox hg) | ((with_reducible refine gate_dst (N := 6) rfl ?_); refine xbox 6 (cs := #[.int .i64 0, .int .i64 0]) (t := 34) ?_; intro gb203 hg w15 hbox hb; have n0_ := am (xw BK202 hb); have n1_ := am (below_step (xh HB) hb); have n2_ := am (hbox); have n3_ := am (xs hg HB); have n4_ := am (xs hg HB); have n5_ := am (xnl hg BK202); have n6_ := am (xng hg BK202); clear BK202; clear HB; have BK202 := n0_; have HB := n1_; have BK203 := n2_; have GW203 := n3_; have GE203 := n4_; have NB202_203 := n5_; have NB203_202 := n6_; clear n0_ n1_ n2_ n3_ n4_ n5_ n6_; clear hb hbox hg; have hnb16 := NB202_203.out; have hnc16 := NB203_202.out; have hcz17_0 : w15.cell? ⟨gb202, 0, none⟩ = some (.int .i64 a0_0) := (blk_cell BK202.out 0).trans rfl; have hcz17_1 : w15.cell? ⟨gb202, 1, none⟩ = some (.bool a0_1) := (blk_cell BK202.out 1).trans rfl; have hcz17_2 : w15.cell? ⟨gb202, 2, none⟩ = some (.bool a0_2) := (blk_cell BK202.out 2).trans rfl; have hcz17_3 : w15.cell? ⟨gb202, 3, none⟩ = some (.slice A0_3 l0_3.length c0_3) := (blk_cell BK202.out 3).trans rfl; have hfz17_0 := blk_frozen BK202.out 0; have hfz17_1 := blk_frozen BK202.out 1; have hfz17_2 := blk_frozen BK202.out 2; have hfz17_3 := blk_frozen BK202.out 3) | ((with_reducible refine gate_callee (f := 10) rfl ?_); refine goesL_ (some 8) rfl rfl Try.func10 (by kernel_rfl) rfl #[.agg #[.int .i64 a0_0, .bool a0_1, .bool a0_2, .slice A0_3 l0_3.length c0_3]] rfl xv ?_; (with_reducible refine (fan_Check.calls k a0_0 a0_1 a0_2 _ _ l0_3 t204 _ ?side1 ?side2 A4.out).mono ?_); (case side1 => exact xc2 (Kd.C_below HR0_3.out HB.out)); (case side2 => exact HC0_3.out); rintro e w18 ⟨rfl, hb⟩; refine ⟨_, rfl, ?_⟩; have n0_ := am (xw BK202 hb); have n1_ := am (xw BK203 hb); have n2_ := am (below_step (xh HB) hb); clear BK202; clear BK203; clear HB; have BK202 := n0_; have BK203 := n1_; have HB := n2_; clear n0_ n1_ n2_; (try clear hb); (try clear hb2); (try clear hk); (try clear hi); have hcz19_0 : w18.cell? ⟨gb203, 0, none⟩ = some (.int .i64 0) := (blk_cell BK203.out 0).trans rfl; have hcz19_1 : w18.cell? ⟨gb203, 1, none⟩ = some (.int .i64 0) := (blk_cell BK203.out 1).trans rfl; have hfz19_0 := blk_frozen BK203.out 0; have hfz19_1 := blk_frozen BK203.out 1))
    refine bodyPost_ret (results_cell_row rfl _ _ gb203 34 #[.int .i64 0, .int .i64 0] (0, 0) _ rfl (by (with_reducible repeat (first | refine blk_drewN ?_ _ | refine blk_drew ?_ | refine blk_alloc ?_ _)); refine blk_put (cs := #[.int .i64 0, .int .i64 0]) ?_ 1 _ rfl; (with_reducible repeat (first | refine blk_drewN ?_ _ | refine blk_drew ?_ | refine blk_alloc ?_ _)); refine blk_put (cs := #[.int .i64 0, .int .i64 0]) ?_ 0 _ rfl; (with_reducible repeat (first | refine blk_drewN ?_ _ | refine blk_drew ?_ | refine blk_alloc ?_ _)); exact BK203.out) Try.underlying34 rfl (by kernel_rfl)) rfl ?_
    exact ⟨by first | rfl | (simp [errW_none, errW_some] <;> rfl) | (simp [*, errW_none, errW_some] <;> rfl), xh HB⟩
   ·
    rw [if_neg c13] at H
    have c13b0 : decide (2 < a1) = false := decide_eq_false c13
    clear c13
    by_cases c20 : a2 < (-1048577)
    ·
     rw [if_pos c20] at H
     have c20b0 : decide (a2 < (-1048577)) = true := decide_eq_true c20
     clear c20
     simp only [Option.some.injEq, Prod.mk.injEq] at H
     obtain ⟨rfl, rfl⟩ := H
     go_enter Try.func16, Try.ntmps16
     go_wp2_with (first | ((with_reducible refine gate_dst (N := 3) rfl ?_); refine xbox 3 (cs := #[.int .i64 a0_0, .bool a0_1, .bool a0_2, .slice A0_3 l0_3.length c0_3]) (t := 25) ?_; intro gb202 hg w21 hbox hb; have n0_ := am (below_step (xh HB) hb); have n1_ := am (hbox); have n2_ := am (xs hg HB); have n3_ := am (xs hg HB); clear HB; have HB := n0_; have BK202 := n1_; have GW202 := n2_; have GE202 := n3_; clear n0_ n1_ n2_ n3_; clear hb hbox hg) | ((with_reducible refine gate_dst (N := 6) rfl ?_); refine xbox 6 (cs := #[.int .i64 0, .int .i64 0]) (t := 34) ?_; intro gb203 hg w22 hbox hb; have n0_ := am (xw BK202 hb); have n1_ := am (below_step (xh HB) hb); have n2_ := am (hbox); have n3_ := am (xs hg HB); have n4_ := am (xs hg HB); have n5_ := am (xnl hg BK202); have n6_ := am (xng hg BK202); clear BK202; clear HB; have BK202 := n0_; have HB := n1_; have BK203 := n2_; have GW203 := n3_; have GE203 := n4_; have NB202_203 := n5_; have NB203_202 := n6_; clear n0_ n1_ n2_ n3_ n4_ n5_ n6_; clear hb hbox hg; have hnb23 := NB202_203.out; have hnc23 := NB203_202.out; have hcz24_0 : w22.cell? ⟨gb202, 0, none⟩ = some (.int .i64 a0_0) := (blk_cell BK202.out 0).trans rfl; have hcz24_1 : w22.cell? ⟨gb202, 1, none⟩ = some (.bool a0_1) := (blk_cell BK202.out 1).trans rfl; have hcz24_2 : w22.cell? ⟨gb202, 2, none⟩ = some (.bool a0_2) := (blk_cell BK202.out 2).trans rfl; have hcz24_3 : w22.cell? ⟨gb202, 3, none⟩ = some (.slice A0_3 l0_3.length c0_3) := (blk_cell BK202.out 3).trans rfl; have hfz24_0 := blk_frozen BK202.out 0; have hfz24_1 := blk_frozen BK202.out 1; have hfz24_2 := blk_frozen BK202.out 2; have hfz24_3 := blk_frozen BK202.out 3) | ((with_reducible refine gate_callee (f := 10) rfl ?_); refine goesL_ (some 8) rfl rfl Try.func10 (by kernel_rfl) rfl #[.agg #[.int .i64 a0_0, .bool a0_1, .bool a0_2, .slice A0_3 l0_3.length c0_3]] rfl xv ?_; (with_reducible refine (fan_Check.calls k a0_0 a0_1 a0_2 _ _ l0_3 t204 _ ?side1 ?side2 A4.out).mono ?_); (case side1 => exact xc2 (Kd.C_below HR0_3.out HB.out)); (case side2 => exact HC0_3.out); rintro e w25 ⟨rfl, hb⟩; refine ⟨_, rfl, ?_⟩; have n0_ := am (xw BK202 hb); have n1_ := am (xw BK203 hb); have n2_ := am (below_step (xh HB) hb); clear BK202; clear BK203; clear HB; have BK202 := n0_; have BK203 := n1_; have HB := n2_; clear n0_ n1_ n2_; (try clear hb); (try clear hb2); (try clear hk); (try clear hi); have hcz26_0 : w25.cell? ⟨gb203, 0, none⟩ = some (.int .i64 0) := (blk_cell BK203.out 0).trans rfl; have hcz26_1 : w25.cell? ⟨gb203, 1, none⟩ = some (.int .i64 0) := (blk_cell BK203.out 1).trans rfl; have hfz26_0 := blk_frozen BK203.out 0; have hfz26_1 := blk_frozen BK203.out 1))
     refine bodyPost_ret (results_cell_row rfl _ _ gb203 34 #[.int .i64 0, .int .i64 0] (0, 0) _ rfl (by (with_reducible repeat (first | refine blk_drewN ?_ _ | refine blk_drew ?_ | refine blk_alloc ?_ _)); refine blk_put (cs := #[.int .i64 0, .int .i64 0]) ?_ 1 _ rfl; (with_reducible repeat (first | refine blk_drewN ?_ _ | refine blk_drew ?_ | refine blk_alloc ?_ _)); refine blk_put (cs := #[.int .i64 0, .int .i64 0]) ?_ 0 _ rfl; (with_reducible repeat (first | refine blk_drewN ?_ _ | refine blk_drew ?_ | refine blk_alloc ?_ _)); exact BK203.out) Try.underlying34 rfl (by kernel_rfl)) rfl ?_
     exact ⟨by first | rfl | (simp [errW_none, errW_some] <;> rfl) | (simp [*, errW_none, errW_some] <;> rfl), xh HB⟩
    ·
     rw [if_neg c20] at H
     have c20b0 : decide (a2 < (-1048577)) = false := decide_eq_false c20
     clear c20
     by_cases c27 : a2 > 1048577
     ·
      rw [if_pos c27] at H
      have c27b0 : decide (1048577 < a2) = true := decide_eq_true c27
      clear c27
      simp only [Option.some.injEq, Prod.mk.injEq] at H
      obtain ⟨rfl, rfl⟩ := H
      go_enter Try.func16, Try.ntmps16
      go_wp2_with (first | ((with_reducible refine gate_dst (N := 3) rfl ?_); refine xbox 3 (cs := #[.int .i64 a0_0, .bool a0_1, .bool a0_2, .slice A0_3 l0_3.length c0_3]) (t := 25) ?_; intro gb202 hg w28 hbox hb; have n0_ := am (below_step (xh HB) hb); have n1_ := am (hbox); have n2_ := am (xs hg HB); have n3_ := am (xs hg HB); clear HB; have HB := n0_; have BK202 := n1_; have GW202 := n2_; have GE202 := n3_; clear n0_ n1_ n2_ n3_; clear hb hbox hg) | ((with_reducible refine gate_dst (N := 6) rfl ?_); refine xbox 6 (cs := #[.int .i64 0, .int .i64 0]) (t := 34) ?_; intro gb203 hg w29 hbox hb; have n0_ := am (xw BK202 hb); have n1_ := am (below_step (xh HB) hb); have n2_ := am (hbox); have n3_ := am (xs hg HB); have n4_ := am (xs hg HB); have n5_ := am (xnl hg BK202); have n6_ := am (xng hg BK202); clear BK202; clear HB; have BK202 := n0_; have HB := n1_; have BK203 := n2_; have GW203 := n3_; have GE203 := n4_; have NB202_203 := n5_; have NB203_202 := n6_; clear n0_ n1_ n2_ n3_ n4_ n5_ n6_; clear hb hbox hg; have hnb30 := NB202_203.out; have hnc30 := NB203_202.out; have hcz31_0 : w29.cell? ⟨gb202, 0, none⟩ = some (.int .i64 a0_0) := (blk_cell BK202.out 0).trans rfl; have hcz31_1 : w29.cell? ⟨gb202, 1, none⟩ = some (.bool a0_1) := (blk_cell BK202.out 1).trans rfl; have hcz31_2 : w29.cell? ⟨gb202, 2, none⟩ = some (.bool a0_2) := (blk_cell BK202.out 2).trans rfl; have hcz31_3 : w29.cell? ⟨gb202, 3, none⟩ = some (.slice A0_3 l0_3.length c0_3) := (blk_cell BK202.out 3).trans rfl; have hfz31_0 := blk_frozen BK202.out 0; have hfz31_1 := blk_frozen BK202.out 1; have hfz31_2 := blk_frozen BK202.out 2; have hfz31_3 := blk_frozen BK202.out 3) | ((with_reducible refine gate_callee (f := 10) rfl ?_); refine goesL_ (some 8) rfl rfl Try.func10 (by kernel_rfl) rfl #[.agg #[.int .i64 a0_0, .bool a0_1, .bool a0_2, .slice A0_3 l0_3.length c0_3]] rfl xv ?_; (with_reducible refine (fan_Check.calls k a0_0 a0_1 a0_2 _ _ l0_3 t204 _ ?side1 ?side2 A4.out).mono ?_); (case side1 => exact xc2 (Kd.C_below HR0_3.out HB.out)); (case side2 => exact HC0_3.out); rintro e w32 ⟨rfl, hb⟩; refine ⟨_, rfl, ?_⟩; have n0_ := am (xw BK202 hb); have n1_ := am (xw BK203 hb); have n2_ := am (below_step (xh HB) hb); clear BK202; clear BK203; clear HB; have BK202 := n0_; have BK203 := n1_; have HB := n2_; clear n0_ n1_ n2_; (try clear hb); (try clear hb2); (try clear hk); (try clear hi); have hcz33_0 : w32.cell? ⟨gb203, 0, none⟩ = some (.int .i64 0) := (blk_cell BK203.out 0).trans rfl; have hcz33_1 : w32.cell? ⟨gb203, 1, none⟩ = some (.int .i64 0) := (blk_cell BK203.out 1).trans rfl; have hfz33_0 := blk_frozen BK203.out 0; have hfz33_1 := blk_frozen BK203.out 1))
      refine bodyPost_ret (results_cell_row rfl _ _ gb203 34 #[.int .i64 0, .int .i64 0] (0, 0) _ rfl (by (with_reducible repeat (first | refine blk_drewN ?_ _ | refine blk_drew ?_ | refine blk_alloc ?_ _)); refine blk_put (cs := #[.int .i64 0, .int .i64 0]) ?_ 1 _ rfl; (with_reducible repeat (first | refine blk_drewN ?_ _ | refine blk_drew ?_ | refine blk_alloc ?_ _)); refine blk_put (cs := #[.int .i64 0, .int .i64 0]) ?_ 0 _ rfl; (with_reducible repeat (first | refine blk_drewN ?_ _ | refine blk_drew ?_ | refine blk_alloc ?_ _)); exact BK203.out) Try.underlying34 rfl (by kernel_rfl)) rfl ?_
      exact ⟨by first | rfl | (simp [errW_none, errW_some] <;> rfl) | (simp [*, errW_none, errW_some] <;> rfl), xh HB⟩
     ·
      rw [if_neg c27] at H
      have c27b0 : decide (1048577 < a2) = false := decide_eq_false c27
      clear c27
      replace H := Option.bind_eq_some_iff.mp H
      obtain ⟨⟨t205, t206⟩, A340, H⟩ := H
      replace H : (some (t205, t206)) = some (r1, r2) := H
      have A34 := am A340
      clear A340
      simp only [Option.some.injEq, Prod.mk.injEq] at H
      obtain ⟨rfl, rfl⟩ := H
      go_enter Try.func16, Try.ntmps16
      go_wp2_with (first | ((with_reducible refine gate_dst (N := 3) rfl ?_); refine xbox 3 (cs := #[.int .i64 a0_0, .bool a0_1, .bool a0_2, .slice A0_3 l0_3.length c0_3]) (t := 25) ?_; intro gb202 hg w35 hbox hb; have n0_ := am (below_step (xh HB) hb); have n1_ := am (hbox); have n2_ := am (xs hg HB); have n3_ := am (xs hg HB); clear HB; have HB := n0_; have BK202 := n1_; have GW202 := n2_; have GE202 := n3_; clear n0_ n1_ n2_ n3_; clear hb hbox hg) | ((with_reducible refine gate_dst (N := 6) rfl ?_); refine xbox 6 (cs := #[.int .i64 0, .int .i64 0]) (t := 34) ?_; intro gb203 hg w36 hbox hb; have n0_ := am (xw BK202 hb); have n1_ := am (below_step (xh HB) hb); have n2_ := am (hbox); have n3_ := am (xs hg HB); have n4_ := am (xs hg HB); have n5_ := am (xnl hg BK202); have n6_ := am (xng hg BK202); clear BK202; clear HB; have BK202 := n0_; have HB := n1_; have BK203 := n2_; have GW203 := n3_; have GE203 := n4_; have NB202_203 := n5_; have NB203_202 := n6_; clear n0_ n1_ n2_ n3_ n4_ n5_ n6_; clear hb hbox hg; have hnb37 := NB202_203.out; have hnc37 := NB203_202.out; have hcz38_0 : w36.cell? ⟨gb202, 0, none⟩ = some (.int .i64 a0_0) := (blk_cell BK202.out 0).trans rfl; have hcz38_1 : w36.cell? ⟨gb202, 1, none⟩ = some (.bool a0_1) := (blk_cell BK202.out 1).trans rfl; have hcz38_2 : w36.cell? ⟨gb202, 2, none⟩ = some (.bool a0_2) := (blk_cell BK202.out 2).trans rfl; have hcz38_3 : w36.cell? ⟨gb202, 3, none⟩ = some (.slice A0_3 l0_3.length c0_3) := (blk_cell BK202.out 3).trans rfl; have hfz38_0 := blk_frozen BK202.out 0; have hfz38_1 := blk_frozen BK202.out 1; have hfz38_2 := blk_frozen BK202.out 2; have hfz38_3 := blk_frozen BK202.out 3) | ((with_reducible refine gate_callee (f := 10) rfl ?_); refine goesL_ (some 8) rfl rfl Try.func10 (by kernel_rfl) rfl #[.agg #[.int .i64 a0_0, .bool a0_1, .bool a0_2, .slice A0_3 l0_3.length c0_3]] rfl xv ?_; (with_reducible refine (fan_Check.calls k a0_0 a0_1 a0_2 _ _ l0_3 t204 _ ?side1 ?side2 A4.out).mono ?_); (case side1 => exact xc2 (Kd.C_below HR0_3.out HB.out)); (case side2 => exact HC0_3.out); rintro e w39 ⟨rfl, hb⟩; refine ⟨_, rfl, ?_⟩; have n0_ := am (xw BK202 hb); have n1_ := am (xw BK203 hb); have n2_ := am (below_step (xh HB) hb); clear BK202; clear BK203; clear HB; have BK202 := n0_; have BK203 := n1_; have HB := n2_; clear n0_ n1_ n2_; (try clear hb); (try clear hb2); (try clear hk); (try clear hi); have hcz40_0 : w39.cell? ⟨gb202, 0, none⟩ = some (.int .i64 a0_0) := (blk_cell BK202.out 0).trans rfl; have hcz40_1 : w39.cell? ⟨gb202, 1, none⟩ = some (.bool a0_1) := (blk_cell BK202.out 1).trans rfl; have hcz40_2 : w39.cell? ⟨gb202, 2, none⟩ = some (.bool a0_2) := (blk_cell BK202.out 2).trans rfl; have hcz40_3 : w39.cell? ⟨gb202, 3, none⟩ = some (.slice A0_3 l0_3.length c0_3) := (blk_cell BK202.out 3).trans rfl; have hfz40_0 := blk_frozen BK202.out 0; have hfz40_1 := blk_frozen BK202.out 1; have hfz40_2 := blk_frozen BK202.out 2; have hfz40_3 := blk_frozen BK202.out 3) | ((with_reducible refine gate_callee (f := 24) rfl ?_); refine goesL_ (some 30) rfl rfl Try.func24 (by kernel_rfl) rfl #[.agg #[.int .i64 a0_0, .bool a0_1, .bool a0_2, .slice A0_3 l0_3.length c0_3], .int .i64 a1, .int .i64 a2] rfl xv ?_; (with_reducible refine (fan_Sure.calls k a0_0 a0_1 a0_2 _ _ l0_3 a1 a2 t205 t206 _ ?side1 ?side2 A34.out).mono ?_); (case side1 => exact xc2 (Kd.C_below HR0_3.out HB.out)); (case side2 => exact HC0_3.out); rintro e w41 ⟨rfl, hb⟩; refine ⟨_, rfl, ?_⟩; have n0_ := am (xw BK202 hb); have n1_ := am (xw BK203 hb); have n2_ := am (below_step (xh HB) hb); clear BK202; clear BK203; clear HB; have BK202 := n0_; have BK203 := n1_; have HB := n2_; clear n0_ n1_ n2_; (try clear hb); (try clear hb2); (try clear hk); (try clear hi); have hcz42_0 : w41.cell? ⟨gb203, 0, none⟩ = some (.int .i64 0) := (blk_cell BK203.out 0).trans rfl; have hcz42_1 : w41.cell? ⟨gb203, 1, none⟩ = some (.int .i64 0) := (blk_cell BK203.out 1).trans rfl; have hfz42_0 := blk_frozen BK203.out 0; have hfz42_1 := blk_frozen BK203.out 1))
      refine bodyPost_ret (results_cell_row rfl _ _ gb203 34 #[.int .i64 t205, .int .i64 t206] (0, 0) _ rfl (by (with_reducible repeat (first | refine blk_drewN ?_ _ | refine blk_drew ?_ | refine blk_alloc ?_ _)); refine blk_put (cs := #[.int .i64 t205, .int .i64 0]) ?_ 1 _ rfl; (with_reducible repeat (first | refine blk_drewN ?_ _ | refine blk_drew ?_ | refine blk_alloc ?_ _)); refine blk_put (cs := #[.int .i64 0, .int .i64 0]) ?_ 0 _ rfl; (with_reducible repeat (first | refine blk_drewN ?_ _ | refine blk_drew ?_ | refine blk_alloc ?_ _)); exact BK203.out) Try.underlying34 rfl (by kernel_rfl)) rfl ?_
      exact ⟨by first | rfl | (simp [errW_none, errW_some] <;> rfl) | (simp [*, errW_none, errW_some] <;> rfl), xh HB⟩
 ·
  rw [if_neg c5] at H
  have c5b0 : (t204 == 0) = false := beq_eq_false_iff_ne.mpr c5
  have c5b1 : (t204 != 0) = true := bne_iff_ne.mpr c5
  simp only [Option.some.injEq, Prod.mk.injEq] at H
  obtain ⟨rfl, rfl⟩ := H
  go_enter Try.func16, Try.ntmps16
  go_wp2_with (first | ((with_reducible refine gate_dst (N := 3) rfl ?_); refine xbox 3 (cs := #[.int .i64 a0_0, .bool a0_1, .bool a0_2, .slice A0_3 l0_3.length c0_3]) (t := 25) ?_; intro gb202 hg w43 hbox hb; have n0_ := am (below_step (xh HB) hb); have n1_ := am (hbox); have n2_ := am (xs hg HB); have n3_ := am (xs hg HB); clear HB; have HB := n0_; have BK202 := n1_; have GW202 := n2_; have GE202 := n3_; clear n0_ n1_ n2_ n3_; clear hb hbox hg) | ((with_reducible refine gate_dst (N := 6) rfl ?_); refine xbox 6 (cs := #[.int .i64 0, .int .i64 0]) (t := 34) ?_; intro gb203 hg w44 hbox hb; have n0_ := am (xw BK202 hb); have n1_ := am (below_step (xh HB) hb); have n2_ := am (hbox); have n3_ := am (xs hg HB); have n4_ := am (xs hg HB); have n5_ := am (xnl hg BK202); have n6_ := am (xng hg BK202); clear BK202; clear HB; have BK202 := n0_; have HB := n1_; have BK203 := n2_; have GW203 := n3_; have GE203 := n4_; have NB202_203 := n5_; have NB203_202 := n6_; clear n0_ n1_ n2_ n3_ n4_ n5_ n6_; clear hb hbox hg; have hnb45 := NB202_203.out; have hnc45 := NB203_202.out; have hcz46_0 : w44.cell? ⟨gb202, 0, none⟩ = some (.int .i64 a0_0) := (blk_cell BK202.out 0).trans rfl; have hcz46_1 : w44.cell? ⟨gb202, 1, none⟩ = some (.bool a0_1) := (blk_cell BK202.out 1).trans rfl; have hcz46_2 : w44.cell? ⟨gb202, 2, none⟩ = some (.bool a0_2) := (blk_cell BK202.out 2).trans rfl; have hcz46_3 : w44.cell? ⟨gb202, 3, none⟩ = some (.slice A0_3 l0_3.length c0_3) := (blk_cell BK202.out 3).trans rfl; have hfz46_0 := blk_frozen BK202.out 0; have hfz46_1 := blk_frozen BK202.out 1; have hfz46_2 := blk_frozen BK202.out 2; have hfz46_3 := blk_frozen BK202.out 3) | ((with_reducible refine gate_callee (f := 10) rfl ?_); refine goesL_ (some 8) rfl rfl Try.func10 (by kernel_rfl) rfl #[.agg #[.int .i64 a0_0, .bool a0_1, .bool a0_2, .slice A0_3 l0_3.length c0_3]] rfl xv ?_; (with_reducible refine (fan_Check.calls k a0_0 a0_1 a0_2 _ _ l0_3 t204 _ ?side1 ?side2 A4.out).mono ?_); (case side1 => exact xc2 (Kd.C_below HR0_3.out HB.out)); (case side2 => exact HC0_3.out); rintro e w47 ⟨rfl, hb⟩; refine ⟨_, rfl, ?_⟩; have n0_ := am (xw BK202 hb); have n1_ := am (xw BK203 hb); have n2_ := am (below_step (xh HB) hb); clear BK202; clear BK203; clear HB; have BK202 := n0_; have BK203 := n1_; have HB := n2_; clear n0_ n1_ n2_; (try clear hb); (try clear hb2); (try clear hk); (try clear hi); have hcz48_0 : w47.cell? ⟨gb203, 0, none⟩ = some (.int .i64 0) := (blk_cell BK203.out 0).trans rfl; have hcz48_1 : w47.cell? ⟨gb203, 1, none⟩ = some (.int .i64 0) := (blk_cell BK203.out 1).trans rfl; have hfz48_0 := blk_frozen BK203.out 0; have hfz48_1 := blk_frozen BK203.out 1))
  refine bodyPost_ret (results_cell_row rfl _ _ gb203 34 #[.int .i64 0, .int .i64 0] (0, 0) _ rfl (by (with_reducible repeat (first | refine blk_drewN ?_ _ | refine blk_drew ?_ | refine blk_alloc ?_ _)); refine blk_put (cs := #[.int .i64 0, .int .i64 0]) ?_ 1 _ rfl; (with_reducible repeat (first | refine blk_drewN ?_ _ | refine blk_drew ?_ | refine blk_alloc ?_ _)); refine blk_put (cs := #[.int .i64 0, .int .i64 0]) ?_ 0 _ rfl; (with_reducible repeat (first | refine blk_drewN ?_ _ | refine blk_drew ?_ | refine blk_alloc ?_ _)); exact BK203.out) Try.underlying34 rfl (by kernel_rfl)) rfl ?_
  exact ⟨by first | rfl | (simp [errW_none, errW_some] <;> rfl) | (simp [*, errW_none, errW_some] <;> rfl), xh HB⟩

/-! ### minecontrollaw07_awake: function 12 -/
def minecontrollaw07_awake.f (k : Nat)  : Option (Bool) := (some (([(⟨0, 100⟩ : S42), (⟨3, 90⟩ : S42)] : List (S42)) : List (S42))).bind fun y207 => ((fan_Check.f k 0 false false y207).bind fun t211 => (if t211 = 0 then ((fan_Curve.f k 0 false false y207 1).bind fun bt212 => (if (bt212.1 == 96 && (bt212.2 == 97)) = true then ((fan_Curve.f k 0 false false y207 (-5)).bind fun bt214 => (if (bt214.1 == 100 && (bt214.2 == 100)) = true then ((fan_At.f k 0 false false y207 2 (-3)).bind fun bt216 => (some (bt216.1 == (-90) && (bt216.2 == (-90))))) else (none))) else (none))) else (none)))
theorem minecontrollaw07_awake.mono : ∀ k, LeO (minecontrollaw07_awake.f k ) (minecontrollaw07_awake.f (k + 1) ) := by
 intro  k
 unfold minecontrollaw07_awake.f
 repeat' first
   | (with_reducible exact fan_At.mono _ _ _ _ _ _ _)
   | (with_reducible exact fan_Check.mono _ _ _ _ _)
   | (with_reducible exact fan_Curve.mono _ _ _ _ _ _)
   | (with_reducible exact LeO.refl _)
   | (with_reducible exact LeO.none _)
   | (with_reducible refine LeO.ite ?_ ?_)
   | (with_reducible refine LeO.bind ?_ (fun _ => ?_))
   | exact fan_At.mono _ _ _ _ _ _ _
   | exact fan_Check.mono _ _ _ _ _
   | exact fan_Curve.mono _ _ _ _ _ _
   | exact LeO.none _
   | refine LeO.ite ?_ ?_
   | refine LeO.bind ?_ (fun _ => ?_)
set_option maxHeartbeats 8000000 in
set_option maxRecDepth 100000 in
theorem minecontrollaw07_awake.calls (k : Nat)  (r : Bool) (w : World) (h : minecontrollaw07_awake.f k  = some r) :
  Calls Try.prog 12 #[] w fun e w' => e = .returned (.bool r) ∧ Below w.heap.size w w' := by
 have hu42 := Try.underlying42
 have hu25 := Try.underlying25
 have hu34 := Try.underlying34
 have HB := am (Below.refl w.heap.size w)
 have H : ((some (([(⟨0, 100⟩ : S42), (⟨3, 90⟩ : S42)] : List (S42)) : List (S42))).bind fun y207 => ((fan_Check.f k 0 false false y207).bind fun t211 => (if t211 = 0 then ((fan_Curve.f k 0 false false y207 1).bind fun bt212 => (if (bt212.1 == 96 && (bt212.2 == 97)) = true then ((fan_Curve.f k 0 false false y207 (-5)).bind fun bt214 => (if (bt214.1 == 100 && (bt214.2 == 100)) = true then ((fan_At.f k 0 false false y207 2 (-3)).bind fun bt216 => (some (bt216.1 == (-90) && (bt216.2 == (-90))))) else (none))) else (none))) else (none)))) = some r := h
 clear h
 obtain ⟨y207, hy207⟩ : ∃ y_ : List (S42), y_ = (([(⟨0, 100⟩ : S42), (⟨3, 90⟩ : S42)] : List (S42))) := ⟨_, rfl⟩
 replace H : ((fan_Check.f k 0 false false y207).bind fun t211 => (if t211 = 0 then ((fan_Curve.f k 0 false false y207 1).bind fun bt212 => (if (bt212.1 == 96 && (bt212.2 == 97)) = true then ((fan_Curve.f k 0 false false y207 (-5)).bind fun bt214 => (if (bt214.1 == 100 && (bt214.2 == 100)) = true then ((fan_At.f k 0 false false y207 2 (-3)).bind fun bt216 => (some (bt216.1 == (-90) && (bt216.2 == (-90))))) else (none))) else (none))) else (none))) = some r := by first | (rw [hy207]; with_reducible exact H) | (have H2_ := (Option.bind_some _ _).symm.trans H; rw [hy207]; with_reducible exact H2_) | (have H2_ := (Option.bind_some _ _).symm.trans H; with_reducible exact H2_) | with_reducible exact H | (rw [hy207]; exact H) | exact H
 have Ny207 := am hy207
 clear hy207
 replace H := Option.bind_eq_some_iff.mp H
 obtain ⟨t211, A10, H⟩ := H
 replace H : (if t211 = 0 then ((fan_Curve.f k 0 false false y207 1).bind fun bt212 => (if (bt212.1 == 96 && (bt212.2 == 97)) = true then ((fan_Curve.f k 0 false false y207 (-5)).bind fun bt214 => (if (bt214.1 == 100 && (bt214.2 == 100)) = true then ((fan_At.f k 0 false false y207 2 (-3)).bind fun bt216 => (some (bt216.1 == (-90) && (bt216.2 == (-90))))) else (none))) else (none))) else (none)) = some r := H
 have A1 := am A10
 clear A10
 by_cases c2 : t211 = 0
 ·
  rw [if_pos c2] at H
  have c2b0 : (t211 == 0) = true := beq_iff_eq.mpr c2
  have c2b1 : (t211 != 0) = false := bne_eq_false_iff_eq.mpr c2
  clear c2
  replace H := Option.bind_eq_some_iff.mp H
  obtain ⟨⟨t212, t213⟩, A30, H⟩ := H
  replace H : (if (t212 == 96 && (t213 == 97)) = true then ((fan_Curve.f k 0 false false y207 (-5)).bind fun bt214 => (if (bt214.1 == 100 && (bt214.2 == 100)) = true then ((fan_At.f k 0 false false y207 2 (-3)).bind fun bt216 => (some (bt216.1 == (-90) && (bt216.2 == (-90))))) else (none))) else (none)) = some r := H
  have A3 := am A30
  clear A30
  by_cases c4 : (t212 == 96 && (t213 == 97)) = true
  rotate_left
  · rw [if_neg c4] at H; exact absurd H (by simp)
  rw [if_pos c4] at H
  have c4b0 : (t212 == 96 && (t213 == 97)) = true := c4
  (try (have c4b1 : decide (t212 = 96 && (t213 == 97)) = true := by simpa using c4))
  (try (have c4b2 : (t212 == 96 && (t213 == 97)) = true := by simpa using c4))
  clear c4
  replace H := Option.bind_eq_some_iff.mp H
  obtain ⟨⟨t214, t215⟩, A50, H⟩ := H
  replace H : (if (t214 == 100 && (t215 == 100)) = true then ((fan_At.f k 0 false false y207 2 (-3)).bind fun bt216 => (some (bt216.1 == (-90) && (bt216.2 == (-90))))) else (none)) = some r := H
  have A5 := am A50
  clear A50
  by_cases c6 : (t214 == 100 && (t215 == 100)) = true
  rotate_left
  · rw [if_neg c6] at H; exact absurd H (by simp)
  rw [if_pos c6] at H
  have c6b0 : (t214 == 100 && (t215 == 100)) = true := c6
  (try (have c6b1 : decide (t214 = 100 && (t215 == 100)) = true := by simpa using c6))
  (try (have c6b2 : (t214 == 100 && (t215 == 100)) = true := by simpa using c6))
  clear c6
  replace H := Option.bind_eq_some_iff.mp H
  obtain ⟨⟨t216, t217⟩, A70, H⟩ := H
  replace H : (some (t216 == (-90) && (t217 == (-90)))) = some r := H
  have A7 := am A70
  clear A70
  obtain rfl := Option.some.inj H
  go_enter Try.func12, Try.ntmps12
  go_wp2_with (first | ((with_reducible refine gate_dst (N := 4) rfl ?_); refine Kd.R_lit k42 _ 42 ?hg (N := 4) ?hd (xs := ([(⟨0, 100⟩ : S42), (⟨3, 90⟩ : S42)] : List (S42))) (inner := [.int .i64 0, .int .i64 100, .int .i64 3, .int .i64 90]) (ok := fun _ => True) (okp := fun _ => True) ?hr ?hp (fun _ hk => hk) trivial (Below.refl _ _) (Nat.le_refl _) (by simp) ?_; (case hd => rfl); (case hg => rfl); (case hr => first | (go_simp; done) | (go_simp; rfl)); (case hp => exact (Reps.c2 (show Kd.M k42 _ _ _ (⟨0, 100⟩ : S42) [.int .i64 0, .int .i64 100] from (k42_mkM _ _ _ (⟨0, 100⟩ : S42) )) (Reps.c2 (show Kd.M k42 _ _ _ (⟨3, 90⟩ : S42) [.int .i64 3, .int .i64 90] from (k42_mkM _ _ _ (⟨3, 90⟩ : S42) )) (Reps.none _ _)))); intro v208 w8 ho9 hb hg_ hnew_; clear hg_ hnew_; (first | rw [← Ny207.out] at ho9 | (simp only [Int.reduceToNat] at ho9; rw [← Ny207.out] at ho9)); have n0_ := am (Kd.R_lower ho9 (below_size (xh HB))); have n1_ := am (below_step (xh HB) hb); clear HB; have HO209 := n0_; have HB := n1_; clear n0_ n1_; clear hb ho9; obtain ⟨Ao10, co10, eo10⟩ := Kd.R_slice HO209.out; subst eo10) | ((with_reducible refine gate_dst (N := 1) rfl ?_); refine xbox 1 (cs := #[.int .i64 0, .bool false, .bool false, .slice none 0 0]) (t := 25) ?_; intro gb210 hg w11 hbox hb; have n0_ := am (Kd.R_below (xk HO209) hb); have n1_ := am (below_step (xh HB) hb); have n2_ := am (hbox); have n3_ := am (xs hg HB); have n4_ := am (xs hg HB); clear HO209; clear HB; have HO209 := n0_; have HB := n1_; have BK210 := n2_; have GW210 := n3_; have GE210 := n4_; clear n0_ n1_ n2_ n3_ n4_; clear hb hbox hg; have hcz12_0 : w11.cell? ⟨gb210, 0, none⟩ = some (.int .i64 0) := (blk_cell BK210.out 0).trans rfl; have hcz12_1 : w11.cell? ⟨gb210, 1, none⟩ = some (.bool false) := (blk_cell BK210.out 1).trans rfl; have hcz12_2 : w11.cell? ⟨gb210, 2, none⟩ = some (.bool false) := (blk_cell BK210.out 2).trans rfl; have hcz12_3 : w11.cell? ⟨gb210, 3, none⟩ = some (.slice none 0 0) := (blk_cell BK210.out 3).trans rfl; have hfz12_0 := blk_frozen BK210.out 0; have hfz12_1 := blk_frozen BK210.out 1; have hfz12_2 := blk_frozen BK210.out 2; have hfz12_3 := blk_frozen BK210.out 3) | ((with_reducible refine gate_callee (f := 10) rfl ?_); refine goesL_ (some 7) rfl rfl Try.func10 (by kernel_rfl) rfl #[.agg #[.int .i64 0, .bool false, .bool false, .slice Ao10 y207.length co10]] rfl xv ?_; (with_reducible refine (fan_Check.calls k 0 false false _ _ y207 t211 _ ?side1 ?side2 A1.out).mono ?_); (case side1 => refine (Kd.R_reads' (e := 42) (base := w.heap.size) (ok := fun k_ => True) (n := y207.length) (c := co10) ?_).2.2; exact (by (with_reducible repeat (first | apply Kd.R_alloc | apply Kd.R_drewN | apply Kd.R_drew)); exact (Kd.R_mono (Kd.R_far (p := ⟨gb210, 3, none⟩) (Kd.R_far (p := ⟨gb210, 2, none⟩) (Kd.R_far (p := ⟨gb210, 1, none⟩) (Kd.R_far (p := ⟨gb210, 0, none⟩) (Kd.R_types HO209.out BK210.out (by decide)) (fun _ hk => hk.2) (.int .i64 0)) (fun _ hk => hk.2) (.bool false)) (fun _ hk => hk.2) (.bool false)) (fun _ hk => hk.2) (.slice Ao10 y207.length co10)) (fun _ h_ => h_.1)))); (case side2 => exact (Kd.R_reads' HO209.out).2.1); rintro e w13 ⟨rfl, hb⟩; refine ⟨_, rfl, ?_⟩; have n0_ := am (Kd.R_below (by (with_reducible repeat (first | apply Kd.R_alloc | apply Kd.R_drewN | apply Kd.R_drew)); exact (Kd.R_mono (Kd.R_far (p := ⟨gb210, 3, none⟩) (Kd.R_far (p := ⟨gb210, 2, none⟩) (Kd.R_far (p := ⟨gb210, 1, none⟩) (Kd.R_far (p := ⟨gb210, 0, none⟩) (Kd.R_types HO209.out BK210.out (by decide)) (fun _ hk => hk.2) (.int .i64 0)) (fun _ hk => hk.2) (.bool false)) (fun _ hk => hk.2) (.bool false)) (fun _ hk => hk.2) (.slice Ao10 y207.length co10)) (fun _ h_ => h_.1))) hb); have n1_ := am (blk_below (g := gb210) (o := .cells #[.int .i64 0, .bool false, .bool false, .slice Ao10 y207.length co10] 25 (0, 0)) (by (with_reducible repeat (first | refine blk_drewN ?_ _ | refine blk_drew ?_ | refine blk_alloc ?_ _)); refine blk_put (cs := #[.int .i64 0, .bool false, .bool false, .slice none 0 0]) ?_ 3 _ rfl; (with_reducible repeat (first | refine blk_drewN ?_ _ | refine blk_drew ?_ | refine blk_alloc ?_ _)); refine blk_put (cs := #[.int .i64 0, .bool false, .bool false, .slice none 0 0]) ?_ 2 _ rfl; (with_reducible repeat (first | refine blk_drewN ?_ _ | refine blk_drew ?_ | refine blk_alloc ?_ _)); refine blk_put (cs := #[.int .i64 0, .bool false, .bool false, .slice none 0 0]) ?_ 1 _ rfl; (with_reducible repeat (first | refine blk_drewN ?_ _ | refine blk_drew ?_ | refine blk_alloc ?_ _)); refine blk_put (cs := #[.int .i64 0, .bool false, .bool false, .slice none 0 0]) ?_ 0 _ rfl; (with_reducible repeat (first | refine blk_drewN ?_ _ | refine blk_drew ?_ | refine blk_alloc ?_ _)); exact BK210.out) hb); have n2_ := am (below_step (xh HB) hb); clear HO209; clear BK210; clear HB; have HO209 := n0_; have BK210 := n1_; have HB := n2_; clear n0_ n1_ n2_; (try clear hb); (try clear hb2); (try clear hk); (try clear hi); have hcz14_0 : w13.cell? ⟨gb210, 0, none⟩ = some (.int .i64 0) := (blk_cell BK210.out 0).trans rfl; have hcz14_1 : w13.cell? ⟨gb210, 1, none⟩ = some (.bool false) := (blk_cell BK210.out 1).trans rfl; have hcz14_2 : w13.cell? ⟨gb210, 2, none⟩ = some (.bool false) := (blk_cell BK210.out 2).trans rfl; have hcz14_3 : w13.cell? ⟨gb210, 3, none⟩ = some (.slice Ao10 y207.length co10) := (blk_cell BK210.out 3).trans rfl; have hfz14_0 := blk_frozen BK210.out 0; have hfz14_1 := blk_frozen BK210.out 1; have hfz14_2 := blk_frozen BK210.out 2; have hfz14_3 := blk_frozen BK210.out 3) | (go_at_call 14; (with_reducible refine (fan_Curve.calls k 0 false false _ _ y207 1 t212 t213 _ ?side1 ?side2 A3.out).mono ?_); (case side1 => repeat (first | exact (Kd.R_reads' HO209.out).2.2 | (with_reducible refine Kd.C_alloc ?_ _) | (with_reducible refine Kd.C_drewN ?_ _) | (with_reducible refine Kd.C_drew ?_))); (case side2 => exact (Kd.R_reads' HO209.out).2.1); rintro e w15 ⟨rfl, hb⟩; have n0_ := am (Kd.R_below (xk HO209) hb); have n1_ := am (xw BK210 hb); have n2_ := am (below_step (xh HB) hb); clear HO209; clear BK210; clear HB; have HO209 := n0_; have BK210 := n1_; have HB := n2_; clear n0_ n1_ n2_; (try clear hb); (try clear hb2); (try clear hk); (try clear hi); have hcz16_0 : w15.cell? ⟨gb210, 0, none⟩ = some (.int .i64 0) := (blk_cell BK210.out 0).trans rfl; have hcz16_1 : w15.cell? ⟨gb210, 1, none⟩ = some (.bool false) := (blk_cell BK210.out 1).trans rfl; have hcz16_2 : w15.cell? ⟨gb210, 2, none⟩ = some (.bool false) := (blk_cell BK210.out 2).trans rfl; have hcz16_3 : w15.cell? ⟨gb210, 3, none⟩ = some (.slice Ao10 y207.length co10) := (blk_cell BK210.out 3).trans rfl; have hfz16_0 := blk_frozen BK210.out 0; have hfz16_1 := blk_frozen BK210.out 1; have hfz16_2 := blk_frozen BK210.out 2; have hfz16_3 := blk_frozen BK210.out 3) | (go_at_call 14; (with_reducible refine (fan_Curve.calls k 0 false false _ _ y207 (-5) t214 t215 _ ?side1 ?side2 A5.out).mono ?_); (case side1 => repeat (first | exact (Kd.R_reads' HO209.out).2.2 | (with_reducible refine Kd.C_alloc ?_ _) | (with_reducible refine Kd.C_drewN ?_ _) | (with_reducible refine Kd.C_drew ?_))); (case side2 => exact (Kd.R_reads' HO209.out).2.1); rintro e w17 ⟨rfl, hb⟩; have n0_ := am (Kd.R_below (xk HO209) hb); have n1_ := am (xw BK210 hb); have n2_ := am (below_step (xh HB) hb); clear HO209; clear BK210; clear HB; have HO209 := n0_; have BK210 := n1_; have HB := n2_; clear n0_ n1_ n2_; (try clear hb); (try clear hb2); (try clear hk); (try clear hi); have hcz18_0 : w17.cell? ⟨gb210, 0, none⟩ = some (.int .i64 0) := (blk_cell BK210.out 0).trans rfl; have hcz18_1 : w17.cell? ⟨gb210, 1, none⟩ = some (.bool false) := (blk_cell BK210.out 1).trans rfl; have hcz18_2 : w17.cell? ⟨gb210, 2, none⟩ = some (.bool false) := (blk_cell BK210.out 2).trans rfl; have hcz18_3 : w17.cell? ⟨gb210, 3, none⟩ = some (.slice Ao10 y207.length co10) := (blk_cell BK210.out 3).trans rfl; have hfz18_0 := blk_frozen BK210.out 0; have hfz18_1 := blk_frozen BK210.out 1; have hfz18_2 := blk_frozen BK210.out 2; have hfz18_3 := blk_frozen BK210.out 3) | (go_at_call 16; (with_reducible refine (fan_At.calls k 0 false false _ _ y207 2 (-3) t216 t217 _ ?side1 ?side2 A7.out).mono ?_); (case side1 => repeat (first | exact (Kd.R_reads' HO209.out).2.2 | (with_reducible refine Kd.C_alloc ?_ _) | (with_reducible refine Kd.C_drewN ?_ _) | (with_reducible refine Kd.C_drew ?_))); (case side2 => exact (Kd.R_reads' HO209.out).2.1); rintro e w19 ⟨rfl, hb⟩; have n0_ := am (Kd.R_below (xk HO209) hb); have n1_ := am (xw BK210 hb); have n2_ := am (below_step (xh HB) hb); clear HO209; clear BK210; clear HB; have HO209 := n0_; have BK210 := n1_; have HB := n2_; clear n0_ n1_ n2_; (try clear hb); (try clear hb2); (try clear hk); (try clear hi)))
  go_ret
  exact ⟨by first | rfl | (simp [errW_none, errW_some] <;> rfl) | (simp [*, errW_none, errW_some] <;> rfl), xh HB⟩
 ·
  rw [if_neg c2] at H
  exact absurd H (by simp)

/-! ### minecontrollaw07_FanChecks: function 3 -/
def minecontrollaw07_FanChecks.f (k : Nat) (l0 : List Int) (a1_0 : Int) (a1_1 : Bool) (a1_2 : Bool) (l1_3 : List (S42)) (a2 : Int) (a3 : Int) : Option (Bool) := (minecontrollaw07_made.f k l0 a2 a3).bind fun bt219 => ((fan_Check.f k bt219.1 bt219.2.1 bt219.2.2.1 bt219.2.2.2).bind fun t226 => ((minecontrolref07_Check.f k bt219.1 bt219.2.1 bt219.2.2.1 bt219.2.2.2).bind fun t227 => (if t226 = t227 then ((fan_Check.f k a1_0 a1_1 a1_2 l1_3).bind fun t228 => ((minecontrolref07_Check.f k a1_0 a1_1 a1_2 l1_3).bind fun t229 => (if t228 = t229 then ((minecontrollaw07_awake.f k).bind fun t230 => (some t230)) else (none)))) else (none))))
theorem minecontrollaw07_FanChecks.mono : ∀ a0 a1 a2 a3 a4 a5 a6 k, LeO (minecontrollaw07_FanChecks.f k a0 a1 a2 a3 a4 a5 a6) (minecontrollaw07_FanChecks.f (k + 1) a0 a1 a2 a3 a4 a5 a6) := by
 intro a0 a1 a2 a3 a4 a5 a6 k
 unfold minecontrollaw07_FanChecks.f
 repeat' first
   | (with_reducible exact fan_Check.mono _ _ _ _ _)
   | (with_reducible exact minecontrollaw07_awake.mono _)
   | (with_reducible exact minecontrollaw07_made.mono _ _ _ _)
   | (with_reducible exact minecontrolref07_Check.mono _ _ _ _ _)
   | (with_reducible exact LeO.refl _)
   | (with_reducible exact LeO.none _)
   | (with_reducible refine LeO.ite ?_ ?_)
   | (with_reducible refine LeO.bind ?_ (fun _ => ?_))
   | exact fan_Check.mono _ _ _ _ _
   | exact minecontrollaw07_awake.mono _
   | exact minecontrollaw07_made.mono _ _ _ _
   | exact minecontrolref07_Check.mono _ _ _ _ _
   | exact LeO.none _
   | refine LeO.ite ?_ ?_
   | refine LeO.bind ?_ (fun _ => ?_)
def minecontrollaw07_FanChecks.T2 : Bool × List (List Nat × List Nat) := (true, [([], []), ([0], [0]), ([], []), ([2, 1], [2]), ([1, 3], [1, 3]), ([4, 3], [4]), ([5], [5]), ([6, 5, 5], [5, 6]), ([5], [5]), ([8, 7, 5], [5, 8]), ([7, 9, 5], [5, 7, 9]), ([5, 10], [5, 10]), ([11, 9], [11]), ([12, 12], [12]), ([12, 13], [12, 13]), ([14, 13, 0, 1, 2, 3, 4, 5, 6, 7, 8, 9, 10, 11, 12, 13, 14], [14])])
def minecontrollaw07_FanChecks.B2 : List Nat := [0, 1, 0, 7, 15, 31, 63, 127, 63, 511, 1023, 2047, 4095, 8191, 16383, 32767]
theorem minecontrollaw07_FanChecks.tab2 : rtab .any (opsOf Try.f3 2) = minecontrollaw07_FanChecks.T2 := by kernel_rfl
theorem minecontrollaw07_FanChecks.bits2 : waitsOk minecontrollaw07_FanChecks.T2.2 minecontrollaw07_FanChecks.B2 = true := by kernel_rfl
set_option maxHeartbeats 8000000 in
set_option maxRecDepth 100000 in
theorem minecontrollaw07_FanChecks.calls (k : Nat) (A0 : Option Addr) (c0 : Nat) (l0 : List Int) (a1_0 : Int) (a1_1 : Bool) (a1_2 : Bool) (A1_3 : Option Addr) (c1_3 : Nat) (l1_3 : List (S42)) (a2 : Int) (a3 : Int) (r : Bool) (w : World) (hr0 : Kd.C (Kd.int .u8) w A0 l0.length l0) (hc0 : l0.length ≤ c0) (hr1_3 : Kd.C k42 w A1_3 l1_3.length l1_3) (hc1_3 : l1_3.length ≤ c1_3) (h : minecontrollaw07_FanChecks.f k l0 a1_0 a1_1 a1_2 l1_3 a2 a3 = some r) :
  Calls Try.prog 3 #[.slice A0 l0.length c0, .agg #[.int .i64 a1_0, .bool a1_1, .bool a1_2, .slice A1_3 l1_3.length c1_3], .int .i64 a2, .int .i64 a3] w fun e w' => e = .returned (.bool r) ∧ Below w.heap.size w w' := by
 have hu25 := Try.underlying25
 have HR0 := am hr0
 have HC0 := am hc0
 clear hr0 hc0
 have HR1_3 := am hr1_3
 have HC1_3 := am hc1_3
 clear hr1_3 hc1_3
 have HB := am (Below.refl w.heap.size w)
 have H : ((minecontrollaw07_made.f k l0 a2 a3).bind fun bt219 => ((fan_Check.f k bt219.1 bt219.2.1 bt219.2.2.1 bt219.2.2.2).bind fun t226 => ((minecontrolref07_Check.f k bt219.1 bt219.2.1 bt219.2.2.1 bt219.2.2.2).bind fun t227 => (if t226 = t227 then ((fan_Check.f k a1_0 a1_1 a1_2 l1_3).bind fun t228 => ((minecontrolref07_Check.f k a1_0 a1_1 a1_2 l1_3).bind fun t229 => (if t228 = t229 then ((minecontrollaw07_awake.f k).bind fun t230 => (some t230)) else (none)))) else (none))))) = some r := h
 clear h
 replace H := Option.bind_eq_some_iff.mp H
 obtain ⟨⟨t219, t220, t221, t222⟩, A50, H⟩ := H
 replace H : ((fan_Check.f k t219 t220 t221 t222).bind fun t226 => ((minecontrolref07_Check.f k t219 t220 t221 t222).bind fun t227 => (if t226 = t227 then ((fan_Check.f k a1_0 a1_1 a1_2 l1_3).bind fun t228 => ((minecontrolref07_Check.f k a1_0 a1_1 a1_2 l1_3).bind fun t229 => (if t228 = t229 then ((minecontrollaw07_awake.f k).bind fun t230 => (some t230)) else (none)))) else (none)))) = some r := H
 have A5 := am A50
 clear A50
 replace H := Option.bind_eq_some_iff.mp H
 obtain ⟨t226, A60, H⟩ := H
 replace H : ((minecontrolref07_Check.f k t219 t220 t221 t222).bind fun t227 => (if t226 = t227 then ((fan_Check.f k a1_0 a1_1 a1_2 l1_3).bind fun t228 => ((minecontrolref07_Check.f k a1_0 a1_1 a1_2 l1_3).bind fun t229 => (if t228 = t229 then ((minecontrollaw07_awake.f k).bind fun t230 => (some t230)) else (none)))) else (none))) = some r := H
 have A6 := am A60
 clear A60
 replace H := Option.bind_eq_some_iff.mp H
 obtain ⟨t227, A70, H⟩ := H
 replace H : (if t226 = t227 then ((fan_Check.f k a1_0 a1_1 a1_2 l1_3).bind fun t228 => ((minecontrolref07_Check.f k a1_0 a1_1 a1_2 l1_3).bind fun t229 => (if t228 = t229 then ((minecontrollaw07_awake.f k).bind fun t230 => (some t230)) else (none)))) else (none)) = some r := H
 have A7 := am A70
 clear A70
 by_cases c8 : t226 = t227
 ·
  rw [if_pos c8] at H
  have c8b0 : (t226 == t227) = true := beq_iff_eq.mpr c8
  have c8b1 : (t226 != t227) = false := bne_eq_false_iff_eq.mpr c8
  clear c8
  replace H := Option.bind_eq_some_iff.mp H
  obtain ⟨t228, A90, H⟩ := H
  replace H : ((minecontrolref07_Check.f k a1_0 a1_1 a1_2 l1_3).bind fun t229 => (if t228 = t229 then ((minecontrollaw07_awake.f k).bind fun t230 => (some t230)) else (none))) = some r := H
  have A9 := am A90
  clear A90
  replace H := Option.bind_eq_some_iff.mp H
  obtain ⟨t229, A100, H⟩ := H
  replace H : (if t228 = t229 then ((minecontrollaw07_awake.f k).bind fun t230 => (some t230)) else (none)) = some r := H
  have A10 := am A100
  clear A100
  by_cases c11 : t228 = t229
  ·
   rw [if_pos c11] at H
   have c11b0 : (t228 == t229) = true := beq_iff_eq.mpr c11
   have c11b1 : (t228 != t229) = false := bne_eq_false_iff_eq.mpr c11
   clear c11
   replace H := Option.bind_eq_some_iff.mp H
   obtain ⟨t230, A120, H⟩ := H
   replace H : (some t230) = some r := H
   have A12 := am A120
   clear A120
   obtain rfl := Option.some.inj H
   go_enter Try.func3, Try.ntmps3
   try go_wp2_with (first | ((with_reducible refine gate_dst (N := 5) rfl ?_); refine xbox 5 (cs := #[.int .i64 a1_0, .bool a1_1, .bool a1_2, .slice A1_3 l1_3.length c1_3]) (t := 25) ?_; intro gb218 hg w13 hbox hb; have n0_ := am (below_step (xh HB) hb); have n1_ := am (hbox); have n2_ := am (xs hg HB); have n3_ := am (xs hg HB); clear HB; have HB := n0_; have BK218 := n1_; have GW218 := n2_; have GE218 := n3_; clear n0_ n1_ n2_ n3_; clear hb hbox hg) | ((with_reducible refine gate_callee (f := 9) rfl ?_); refine goesL_ (some 13) rfl rfl Try.func9 (by kernel_rfl) rfl #[.slice A0 l0.length c0, .int .i64 a2, .int .i64 a3] rfl xv ?_; (with_reducible refine (minecontrollaw07_made.calls k _ _ l0 a2 a3 t219 t220 t221 t222 _ ?side1 ?side2 A5.out).mono ?_); (case side1 => exact xc2 (Kd.C_below HR0.out HB.out)); (case side2 => exact HC0.out); rintro e w14 ⟨v223, rfl, ho0, hb⟩; refine ⟨_, rfl, ?_⟩; have n0_ := am (Kd.R_lower ho0 (below_size (xh HB))); have n1_ := am (xw BK218 hb); have n2_ := am (below_step (xh HB) hb); clear BK218; clear HB; have HO224 := n0_; have BK218 := n1_; have HB := n2_; clear n0_ n1_ n2_; (try clear hb); (try clear hb2); (try clear hk); (try clear hi); (try clear ho0)) | ((with_reducible refine gate_dst (N := 9) rfl ?_); refine xbox 9 (cs := #[.int .i64 0, .bool false, .bool false, .slice none 0 0]) (t := 25) ?_; intro gb225 hg w15 hbox hb; have n0_ := am (Kd.R_below (xk HO224) hb); have n1_ := am (xw BK218 hb); have n2_ := am (below_step (xh HB) hb); have n3_ := am (hbox); have n4_ := am (xs hg HB); have n5_ := am (xs hg HB); have n6_ := am (xnl hg BK218); have n7_ := am (xng hg BK218); clear HO224; clear BK218; clear HB; have HO224 := n0_; have BK218 := n1_; have HB := n2_; have BK225 := n3_; have GW225 := n4_; have GE225 := n5_; have NB218_225 := n6_; have NB225_218 := n7_; clear n0_ n1_ n2_ n3_ n4_ n5_ n6_ n7_; clear hb hbox hg; have hnb16 := NB225_218.out; have hnc16 := NB218_225.out; have hcz17_0 : w15.cell? ⟨gb225, 0, none⟩ = some (.int .i64 0) := (blk_cell BK225.out 0).trans rfl; have hcz17_1 : w15.cell? ⟨gb225, 1, none⟩ = some (.bool false) := (blk_cell BK225.out 1).trans rfl; have hcz17_2 : w15.cell? ⟨gb225, 2, none⟩ = some (.bool false) := (blk_cell BK225.out 2).trans rfl; have hcz17_3 : w15.cell? ⟨gb225, 3, none⟩ = some (.slice none 0 0) := (blk_cell BK225.out 3).trans rfl; have hfz17_0 := blk_frozen BK225.out 0; have hfz17_1 := blk_frozen BK225.out 1; have hfz17_2 := blk_frozen BK225.out 2; have hfz17_3 := blk_frozen BK225.out 3; obtain ⟨Ao18, co18, eo18⟩ := Kd.R_slice HO224.out; subst eo18))
   have n0_ : Aside0 (Kd.R k42 42 ((((w15.setCell ⟨gb225, 0, none⟩ (.int .i64 t219)).setCell ⟨gb225, 1, none⟩ (.bool t220)).setCell ⟨gb225, 2, none⟩ (.bool t221)).setCell ⟨gb225, 3, none⟩ (.slice Ao18 t222.length co18)) w.heap.size (fun _ => True) (.slice Ao18 t222.length co18) t222) := ⟨by (with_reducible repeat (first | apply Kd.R_alloc | apply Kd.R_drewN | apply Kd.R_drew)); exact Kd.R_mono (Kd.R_far (p := ⟨gb225, 3, none⟩) (Kd.R_far (p := ⟨gb225, 2, none⟩) (Kd.R_far (p := ⟨gb225, 1, none⟩) (Kd.R_far (p := ⟨gb225, 0, none⟩) (Kd.R_types HO224.out BK225.out (by decide)) (fun _ hk => hk.2) (.int .i64 t219)) (fun _ hk => hk.2) (.bool t220)) (fun _ hk => hk.2) (.bool t221)) (fun _ hk => hk.2) (.slice Ao18 t222.length co18)) (fun _ hk => trivial)⟩
   have n1_ : Aside0 (((((w15.setCell ⟨gb225, 0, none⟩ (.int .i64 t219)).setCell ⟨gb225, 1, none⟩ (.bool t220)).setCell ⟨gb225, 2, none⟩ (.bool t221)).setCell ⟨gb225, 3, none⟩ (.slice Ao18 t222.length co18)).heap[gb218]? = some (.cells #[.int .i64 a1_0, .bool a1_1, .bool a1_2, .slice A1_3 l1_3.length c1_3] 25 (0, 0))) := ⟨by (with_reducible repeat (first | refine blk_drewN ?_ _ | refine blk_drew ?_ | refine blk_alloc ?_ _)); refine blk_far ?_ NB218_225.out _; (with_reducible repeat (first | refine blk_drewN ?_ _ | refine blk_drew ?_ | refine blk_alloc ?_ _)); refine blk_far ?_ NB218_225.out _; (with_reducible repeat (first | refine blk_drewN ?_ _ | refine blk_drew ?_ | refine blk_alloc ?_ _)); refine blk_far ?_ NB218_225.out _; (with_reducible repeat (first | refine blk_drewN ?_ _ | refine blk_drew ?_ | refine blk_alloc ?_ _)); refine blk_far ?_ NB218_225.out _; (with_reducible repeat (first | refine blk_drewN ?_ _ | refine blk_drew ?_ | refine blk_alloc ?_ _)); exact BK218.out⟩
   have n2_ : Aside0 (((((w15.setCell ⟨gb225, 0, none⟩ (.int .i64 t219)).setCell ⟨gb225, 1, none⟩ (.bool t220)).setCell ⟨gb225, 2, none⟩ (.bool t221)).setCell ⟨gb225, 3, none⟩ (.slice Ao18 t222.length co18)).heap[gb225]? = some (.cells #[.int .i64 t219, .bool t220, .bool t221, .slice Ao18 t222.length co18] 25 (0, 0))) := ⟨by (with_reducible repeat (first | refine blk_drewN ?_ _ | refine blk_drew ?_ | refine blk_alloc ?_ _)); refine blk_put (cs := #[.int .i64 t219, .bool t220, .bool t221, .slice none 0 0]) ?_ 3 _ rfl; (with_reducible repeat (first | refine blk_drewN ?_ _ | refine blk_drew ?_ | refine blk_alloc ?_ _)); refine blk_put (cs := #[.int .i64 t219, .bool t220, .bool false, .slice none 0 0]) ?_ 2 _ rfl; (with_reducible repeat (first | refine blk_drewN ?_ _ | refine blk_drew ?_ | refine blk_alloc ?_ _)); refine blk_put (cs := #[.int .i64 t219, .bool false, .bool false, .slice none 0 0]) ?_ 1 _ rfl; (with_reducible repeat (first | refine blk_drewN ?_ _ | refine blk_drew ?_ | refine blk_alloc ?_ _)); refine blk_put (cs := #[.int .i64 0, .bool false, .bool false, .slice none 0 0]) ?_ 0 _ rfl; (with_reducible repeat (first | refine blk_drewN ?_ _ | refine blk_drew ?_ | refine blk_alloc ?_ _)); exact BK225.out⟩
   have n3_ : Aside0 (Below w.heap.size w ((((w15.setCell ⟨gb225, 0, none⟩ (.int .i64 t219)).setCell ⟨gb225, 1, none⟩ (.bool t220)).setCell ⟨gb225, 2, none⟩ (.bool t221)).setCell ⟨gb225, 3, none⟩ (.slice Ao18 t222.length co18))) := ⟨xh HB⟩
   (try clear HO224)
   (try clear BK218)
   (try clear BK225)
   (try clear HB)
   generalize ((((w15.setCell ⟨gb225, 0, none⟩ (.int .i64 t219)).setCell ⟨gb225, 1, none⟩ (.bool t220)).setCell ⟨gb225, 2, none⟩ (.bool t221)).setCell ⟨gb225, 3, none⟩ (.slice Ao18 t222.length co18)) = w19 at n0_ n1_ n2_ n3_ ⊢
   have HO224 := n0_
   have BK218 := n1_
   have BK225 := n2_
   have HB := n3_
   clear n0_ n1_ n2_ n3_
   have n0_ := am (Kd.R_drew HO224.out)
   have n1_ := am (blk_drew BK218.out)
   have n2_ := am (blk_drew BK225.out)
   have n3_ := am (below_drew1 HB.out)
   clear HO224
   clear BK218
   clear BK225
   clear HB
   have HO224 := n0_
   have BK218 := n1_
   have BK225 := n2_
   have HB := n3_
   clear n0_ n1_ n2_ n3_
   refine start_ (n := 16) (S := fun w' => w'.cell? ⟨gb225, 0, none⟩ = some (.int .i64 t219) ∧ w'.cell? ⟨gb225, 1, none⟩ = some (.bool t220) ∧ w'.cell? ⟨gb225, 2, none⟩ = some (.bool t221) ∧ w'.cell? ⟨gb225, 3, none⟩ = some (.slice Ao18 t222.length co18) ∧ w'.cell? ⟨gb218, 0, none⟩ = some (.int .i64 a1_0) ∧ w'.cell? ⟨gb218, 1, none⟩ = some (.bool a1_1) ∧ w'.cell? ⟨gb218, 2, none⟩ = some (.bool a1_2) ∧ w'.cell? ⟨gb218, 3, none⟩ = some (.slice A1_3 l1_3.length c1_3)) (ds := []) #[false, false, false, false, false, false, false, false, false, false, false, false, false, false, false, false] (by kernel_rfl) rfl rfl ⟨(blk_cell BK225.out 0).trans rfl, (blk_cell BK225.out 1).trans rfl, (blk_cell BK225.out 2).trans rfl, (blk_cell BK225.out 3).trans rfl, (blk_cell BK218.out 0).trans rfl, (blk_cell BK218.out 1).trans rfl, (blk_cell BK218.out 2).trans rfl, (blk_cell BK218.out 3).trans rfl⟩ (fun hHeld => ?_); refine with_tabW minecontrollaw07_FanChecks.tab2 minecontrollaw07_FanChecks.bits2 (fun HT_ HW_ => ?_)
   generalize w19.drew = w20 at HO224 BK218 BK225 HB hHeld ⊢
   refine take_ (i := 0) (N := some 14) (v := ?_) (a' := ?_) #[true, false, false, false, false, false, false, false, false, false, false, false, false, false, false, false] rfl rfl (take_ofW HT_.out HW_.out (by kernel_rfl)) (fun _ _ _ h => h) (Or.inl ⟨by rfl, ?_⟩) hHeld ?_ ?_
   rotate_left
   ·
    rintro w' ⟨s0, s1, s2, s3, s4, s5, s6, s7⟩
    go_simp
    with_reducible rfl
   rotate_left
   ·
    simp only [Act.put, List.setIfInBounds_toArray, List.set_cons_zero, List.set_cons_succ, i64_w, i32_w]
    rfl
   refine take_ (i := 2) (N := some 16) (v := ?_) (a' := ?_) #[true, false, true, false, false, false, false, false, false, false, false, false, false, false, false, false] rfl rfl (take_ofW HT_.out HW_.out (by kernel_rfl)) (fun _ _ _ h => h) (Or.inl ⟨by rfl, ?_⟩) hHeld ?_ ?_
   rotate_left
   ·
    rintro w' ⟨s0, s1, s2, s3, s4, s5, s6, s7⟩
    go_simp
    with_reducible rfl
   rotate_left
   ·
    simp only [Act.put, List.setIfInBounds_toArray, List.set_cons_zero, List.set_cons_succ, i64_w, i32_w]
    rfl
   refine one_ (i := 1) (N := some 15) #[true, true, true, false, false, false, false, false, false, false, false, false, false, false, false, false] rfl rfl (one_of HT_.out (by kernel_rfl)) (by decide) (fun K hK => ?_)
   refine goes_ Try.func10 (by kernel_rfl) rfl #[.agg #[.int .i64 t219, .bool t220, .bool t221, .slice Ao18 t222.length co18]] (by rfl) rfl rfl xv ?_
   with_reducible refine (fan_Check.calls k t219 t220 t221 _ _ t222 t226 _ ?side1 ?side2 A6.out).mono ?_
   (case side1 => repeat (first | exact (Kd.R_reads' HO224.out).2.2 | (with_reducible refine Kd.C_alloc ?_ _) | (with_reducible refine Kd.C_drewN ?_ _) | (with_reducible refine Kd.C_drew ?_)))
   (case side2 => exact (Kd.R_reads' HO224.out).2.1)
   rintro e w21 ⟨rfl, hb⟩
   refine ⟨_, rfl, ?_⟩
   have n0_ := am (Kd.R_below (xk HO224) hb)
   have n1_ := am (xw BK218 hb)
   have n2_ := am (xw BK225 hb)
   have n3_ := am (below_step (xh HB) hb)
   clear HO224
   clear BK218
   clear BK225
   clear HB
   have HO224 := n0_
   have BK218 := n1_
   have BK225 := n2_
   have HB := n3_
   clear n0_ n1_ n2_ n3_
   (try clear hb)
   (try clear hb2)
   (try clear hk)
   (try clear hi)
   refine hK.out _ _ ⟨(blk_cell BK225.out 0).trans rfl, (blk_cell BK225.out 1).trans rfl, (blk_cell BK225.out 2).trans rfl, (blk_cell BK225.out 3).trans rfl, (blk_cell BK218.out 0).trans rfl, (blk_cell BK218.out 1).trans rfl, (blk_cell BK218.out 2).trans rfl, (blk_cell BK218.out 3).trans rfl⟩ (fun hHeld => ?_)
   clear hK K
   refine norm_ (a' := ?_) ?_ ?_
   rotate_left
   ·
    show Act.put _ (some 15) _ = _
    simp only [Act.put, List.setIfInBounds_toArray, List.set_cons_zero, List.set_cons_succ, i64_w, i32_w]
    rfl
   refine one_ (i := 3) (N := some 17) #[true, true, true, true, false, false, false, false, false, false, false, false, false, false, false, false] rfl rfl (one_of HT_.out (by kernel_rfl)) (by decide) (fun K hK => ?_)
   refine goes_ Try.func11 (by kernel_rfl) rfl #[.agg #[.int .i64 t219, .bool t220, .bool t221, .slice Ao18 t222.length co18]] (by rfl) rfl rfl xv ?_
   with_reducible refine (minecontrolref07_Check.calls k t219 t220 t221 _ _ t222 t227 _ ?side1 ?side2 A7.out).mono ?_
   (case side1 => repeat (first | exact (Kd.R_reads' HO224.out).2.2 | (with_reducible refine Kd.C_alloc ?_ _) | (with_reducible refine Kd.C_drewN ?_ _) | (with_reducible refine Kd.C_drew ?_)))
   (case side2 => exact (Kd.R_reads' HO224.out).2.1)
   rintro e w22 ⟨rfl, hb⟩
   refine ⟨_, rfl, ?_⟩
   have n0_ := am (Kd.R_below (xk HO224) hb)
   have n1_ := am (xw BK218 hb)
   have n2_ := am (xw BK225 hb)
   have n3_ := am (below_step (xh HB) hb)
   clear HO224
   clear BK218
   clear BK225
   clear HB
   have HO224 := n0_
   have BK218 := n1_
   have BK225 := n2_
   have HB := n3_
   clear n0_ n1_ n2_ n3_
   (try clear hb)
   (try clear hb2)
   (try clear hk)
   (try clear hi)
   refine hK.out _ _ ⟨(blk_cell BK225.out 0).trans rfl, (blk_cell BK225.out 1).trans rfl, (blk_cell BK225.out 2).trans rfl, (blk_cell BK225.out 3).trans rfl, (blk_cell BK218.out 0).trans rfl, (blk_cell BK218.out 1).trans rfl, (blk_cell BK218.out 2).trans rfl, (blk_cell BK218.out 3).trans rfl⟩ (fun hHeld => ?_)
   clear hK K
   refine norm_ (a' := ?_) ?_ ?_
   rotate_left
   ·
    show Act.put _ (some 17) _ = _
    simp only [Act.put, List.setIfInBounds_toArray, List.set_cons_zero, List.set_cons_succ, i64_w, i32_w]
    rfl
   refine pure_ (i := 4) (N := some 18) (v := ?_) (a' := ?_) #[true, true, true, true, true, false, false, false, false, false, false, false, false, false, false, false] rfl rfl (any_of HT_.out (by kernel_rfl)) (fun _ _ _ h => h) (Or.inl ⟨by rfl, ?_⟩) ?_ ?_
   rotate_left
   ·
    intro w'
    go_simp
    with_reducible rfl
   rotate_left
   ·
    simp only [Act.put, List.setIfInBounds_toArray, List.set_cons_zero, List.set_cons_succ, i64_w, i32_w]
    rfl
   refine pure_ (i := 5) (N := some 19) (v := ?_) (a' := ?_) #[true, true, true, true, true, true, false, false, false, false, false, false, false, false, false, false] rfl rfl (any_of HT_.out (by kernel_rfl)) (fun _ _ _ h => h) (Or.inl ⟨by rfl, ?_⟩) ?_ ?_
   rotate_left
   ·
    intro w'
    go_simp
    with_reducible rfl
   rotate_left
   ·
    simp only [Act.put, List.setIfInBounds_toArray, List.set_cons_zero, List.set_cons_succ, i64_w, i32_w]
    rfl
   refine take_ (i := 6) (N := some 20) (v := ?_) (a' := ?_) #[true, true, true, true, true, true, true, false, false, false, false, false, false, false, false, false] rfl rfl (take_ofW HT_.out HW_.out (by kernel_rfl)) (fun _ _ _ h => h) (Or.inl ⟨by rfl, ?_⟩) hHeld ?_ ?_
   rotate_left
   ·
    rintro w' ⟨s0, s1, s2, s3, s4, s5, s6, s7⟩
    go_simp
    with_reducible rfl
   rotate_left
   ·
    simp only [Act.put, List.setIfInBounds_toArray, List.set_cons_zero, List.set_cons_succ, i64_w, i32_w]
    rfl
   refine take_ (i := 8) (N := some 22) (v := ?_) (a' := ?_) #[true, true, true, true, true, true, true, false, true, false, false, false, false, false, false, false] rfl rfl (take_ofW HT_.out HW_.out (by kernel_rfl)) (fun _ _ _ h => h) (Or.inl ⟨by rfl, ?_⟩) hHeld ?_ ?_
   rotate_left
   ·
    rintro w' ⟨s0, s1, s2, s3, s4, s5, s6, s7⟩
    go_simp
    with_reducible rfl
   rotate_left
   ·
    simp only [Act.put, List.setIfInBounds_toArray, List.set_cons_zero, List.set_cons_succ, i64_w, i32_w]
    rfl
   refine one_ (i := 7) (N := some 21) #[true, true, true, true, true, true, true, true, true, false, false, false, false, false, false, false] rfl rfl (one_of HT_.out (by kernel_rfl)) (by decide) (fun K hK => ?_)
   refine goes_ Try.func10 (by kernel_rfl) rfl #[.agg #[.int .i64 a1_0, .bool a1_1, .bool a1_2, .slice A1_3 l1_3.length c1_3]] (by rfl) rfl rfl xv ?_
   with_reducible refine (fan_Check.calls k a1_0 a1_1 a1_2 _ _ l1_3 t228 _ ?side1 ?side2 A9.out).mono ?_
   (case side1 => exact xc2 (Kd.C_below HR1_3.out HB.out))
   (case side2 => exact HC1_3.out)
   rintro e w23 ⟨rfl, hb⟩
   refine ⟨_, rfl, ?_⟩
   have n0_ := am (Kd.R_below (xk HO224) hb)
   have n1_ := am (xw BK218 hb)
   have n2_ := am (xw BK225 hb)
   have n3_ := am (below_step (xh HB) hb)
   clear HO224
   clear BK218
   clear BK225
   clear HB
   have HO224 := n0_
   have BK218 := n1_
   have BK225 := n2_
   have HB := n3_
   clear n0_ n1_ n2_ n3_
   (try clear hb)
   (try clear hb2)
   (try clear hk)
   (try clear hi)
   refine hK.out _ _ ⟨(blk_cell BK225.out 0).trans rfl, (blk_cell BK225.out 1).trans rfl, (blk_cell BK225.out 2).trans rfl, (blk_cell BK225.out 3).trans rfl, (blk_cell BK218.out 0).trans rfl, (blk_cell BK218.out 1).trans rfl, (blk_cell BK218.out 2).trans rfl, (blk_cell BK218.out 3).trans rfl⟩ (fun hHeld => ?_)
   clear hK K
   refine norm_ (a' := ?_) ?_ ?_
   rotate_left
   ·
    show Act.put _ (some 21) _ = _
    simp only [Act.put, List.setIfInBounds_toArray, List.set_cons_zero, List.set_cons_succ, i64_w, i32_w]
    rfl
   refine one_ (i := 9) (N := some 23) #[true, true, true, true, true, true, true, true, true, true, false, false, false, false, false, false] rfl rfl (one_of HT_.out (by kernel_rfl)) (by decide) (fun K hK => ?_)
   refine goes_ Try.func11 (by kernel_rfl) rfl #[.agg #[.int .i64 a1_0, .bool a1_1, .bool a1_2, .slice A1_3 l1_3.length c1_3]] (by rfl) rfl rfl xv ?_
   with_reducible refine (minecontrolref07_Check.calls k a1_0 a1_1 a1_2 _ _ l1_3 t229 _ ?side1 ?side2 A10.out).mono ?_
   (case side1 => exact xc2 (Kd.C_below HR1_3.out HB.out))
   (case side2 => exact HC1_3.out)
   rintro e w24 ⟨rfl, hb⟩
   refine ⟨_, rfl, ?_⟩
   have n0_ := am (Kd.R_below (xk HO224) hb)
   have n1_ := am (xw BK218 hb)
   have n2_ := am (xw BK225 hb)
   have n3_ := am (below_step (xh HB) hb)
   clear HO224
   clear BK218
   clear BK225
   clear HB
   have HO224 := n0_
   have BK218 := n1_
   have BK225 := n2_
   have HB := n3_
   clear n0_ n1_ n2_ n3_
   (try clear hb)
   (try clear hb2)
   (try clear hk)
   (try clear hi)
   refine hK.out _ _ ⟨(blk_cell BK225.out 0).trans rfl, (blk_cell BK225.out 1).trans rfl, (blk_cell BK225.out 2).trans rfl, (blk_cell BK225.out 3).trans rfl, (blk_cell BK218.out 0).trans rfl, (blk_cell BK218.out 1).trans rfl, (blk_cell BK218.out 2).trans rfl, (blk_cell BK218.out 3).trans rfl⟩ (fun hHeld => ?_)
   clear hK K
   refine norm_ (a' := ?_) ?_ ?_
   rotate_left
   ·
    show Act.put _ (some 23) _ = _
    simp only [Act.put, List.setIfInBounds_toArray, List.set_cons_zero, List.set_cons_succ, i64_w, i32_w]
    rfl
   refine pure_ (i := 10) (N := some 24) (v := ?_) (a' := ?_) #[true, true, true, true, true, true, true, true, true, true, true, false, false, false, false, false] rfl rfl (any_of HT_.out (by kernel_rfl)) (fun _ _ _ h => h) (Or.inl ⟨by rfl, ?_⟩) ?_ ?_
   rotate_left
   ·
    intro w'
    go_simp
    with_reducible rfl
   rotate_left
   ·
    simp only [Act.put, List.setIfInBounds_toArray, List.set_cons_zero, List.set_cons_succ, i64_w, i32_w]
    rfl
   refine pure_ (i := 11) (N := some 25) (v := ?_) (a' := ?_) #[true, true, true, true, true, true, true, true, true, true, true, true, false, false, false, false] rfl rfl (any_of HT_.out (by kernel_rfl)) (fun _ _ _ h => h) (Or.inl ⟨by rfl, ?_⟩) ?_ ?_
   rotate_left
   ·
    intro w'
    go_simp
    with_reducible rfl
   rotate_left
   ·
    simp only [Act.put, List.setIfInBounds_toArray, List.set_cons_zero, List.set_cons_succ, i64_w, i32_w]
    rfl
   refine pure_ (i := 12) (N := some 26) (v := ?_) (a' := ?_) #[true, true, true, true, true, true, true, true, true, true, true, true, true, false, false, false] rfl rfl (any_of HT_.out (by kernel_rfl)) (fun _ _ _ h => h) (Or.inl ⟨by rfl, ?_⟩) ?_ ?_
   rotate_left
   ·
    intro w'
    go_simp
    with_reducible rfl
   rotate_left
   ·
    simp only [Act.put, List.setIfInBounds_toArray, List.set_cons_zero, List.set_cons_succ, i64_w, i32_w]
    rfl
   refine one_ (i := 13) (N := some 27) #[true, true, true, true, true, true, true, true, true, true, true, true, true, true, false, false] rfl rfl (one_of HT_.out (by kernel_rfl)) (by decide) (fun K hK => ?_)
   refine goes_ Try.func12 (by kernel_rfl) rfl #[] (by rfl) rfl rfl xv ?_
   with_reducible refine (minecontrollaw07_awake.calls k  t230 _ A12.out).mono ?_
   rintro e w25 ⟨rfl, hb⟩
   refine ⟨_, rfl, ?_⟩
   have n0_ := am (Kd.R_below (xk HO224) hb)
   have n1_ := am (xw BK218 hb)
   have n2_ := am (xw BK225 hb)
   have n3_ := am (below_step (xh HB) hb)
   clear HO224
   clear BK218
   clear BK225
   clear HB
   have HO224 := n0_
   have BK218 := n1_
   have BK225 := n2_
   have HB := n3_
   clear n0_ n1_ n2_ n3_
   (try clear hb)
   (try clear hb2)
   (try clear hk)
   (try clear hi)
   refine hK.out _ _ ⟨(blk_cell BK225.out 0).trans rfl, (blk_cell BK225.out 1).trans rfl, (blk_cell BK225.out 2).trans rfl, (blk_cell BK225.out 3).trans rfl, (blk_cell BK218.out 0).trans rfl, (blk_cell BK218.out 1).trans rfl, (blk_cell BK218.out 2).trans rfl, (blk_cell BK218.out 3).trans rfl⟩ (fun hHeld => ?_)
   clear hK K
   refine norm_ (a' := ?_) ?_ ?_
   rotate_left
   ·
    show Act.put _ (some 27) _ = _
    simp only [Act.put, List.setIfInBounds_toArray, List.set_cons_zero, List.set_cons_succ, i64_w, i32_w]
    rfl
   refine pure_ (i := 14) (N := some 28) (v := ?_) (a' := ?_) #[true, true, true, true, true, true, true, true, true, true, true, true, true, true, true, false] rfl rfl (any_of HT_.out (by kernel_rfl)) (fun _ _ _ h => h) (Or.inl ⟨by rfl, ?_⟩) ?_ ?_
   rotate_left
   ·
    intro w'
    go_simp
    with_reducible rfl
   rotate_left
   ·
    simp only [Act.put, List.setIfInBounds_toArray, List.set_cons_zero, List.set_cons_succ, i64_w, i32_w]
    rfl
   refine pure_ (i := 15) (N := some 8) (v := ?_) (a' := ?_) #[true, true, true, true, true, true, true, true, true, true, true, true, true, true, true, true] rfl rfl (any_of HT_.out (by kernel_rfl)) (fun _ _ _ h => h) (Or.inl ⟨by rfl, ?_⟩) ?_ ?_
   rotate_left
   ·
    intro w'
    go_simp
    with_reducible rfl
   rotate_left
   ·
    simp only [Act.put, List.setIfInBounds_toArray, List.set_cons_zero, List.set_cons_succ, i64_w, i32_w]
    rfl
   refine done_ (done_of HT_.out (by kernel_rfl)) ?_
   try go_wp2
   go_ret
   exact ⟨by first | rfl | (simp [errW_none, errW_some] <;> rfl) | (simp [*, errW_none, errW_some] <;> rfl), xh HB⟩
  ·
   rw [if_neg c11] at H
   have c11b0 : (t228 == t229) = false := beq_eq_false_iff_ne.mpr c11
   have c11b1 : (t228 != t229) = true := bne_iff_ne.mpr c11
   exact absurd H (by simp)
 ·
  rw [if_neg c8] at H
  have c8b0 : (t226 == t227) = false := beq_eq_false_iff_ne.mpr c8
  have c8b1 : (t226 != t227) = true := bne_iff_ne.mpr c8
  exact absurd H (by simp)

/-! ### minecontrolref05_Floor: function 28 -/
def minecontrolref05_Floor.f (a0 : Int) (a1 : Int) : Option (Int) := if a1 = 0 then (none) else (if (Int.tmod a0 a1) < 0 then (some (wrap64 ((wrap64 (Int.tdiv a0 a1)) - 1))) else (some (wrap64 (Int.tdiv a0 a1))))
set_option maxHeartbeats 8000000 in
set_option maxRecDepth 100000 in
theorem minecontrolref05_Floor.calls (a0 : Int) (a1 : Int) (r : Int) (w : World) (h : minecontrolref05_Floor.f a0 a1 = some r) :
  Calls Try.prog 28 #[.int .i64 a0, .int .i64 a1] w fun e w' => e = .returned (.int .i64 r) ∧ Drawn0 w w' := by
 have H : (if a1 = 0 then (none) else (if (Int.tmod a0 a1) < 0 then (some (wrap64 ((wrap64 (Int.tdiv a0 a1)) - 1))) else (some (wrap64 (Int.tdiv a0 a1))))) = some r := h
 clear h
 by_cases c3 : a1 = 0
 · rw [if_pos c3] at H; exact absurd H (by simp)
 rw [if_neg c3] at H
 have c3b0 : (a1 == 0) = false := beq_eq_false_iff_ne.mpr c3
 have c3b1 : (a1 != 0) = true := bne_iff_ne.mpr c3
 by_cases c4 : (Int.tmod a0 a1) < 0
 ·
  rw [if_pos c4] at H
  have c4b0 : decide ((Int.tmod a0 a1) < 0) = true := decide_eq_true c4
  clear c4
  obtain rfl := Option.some.inj H
  go_enter Try.func28, Try.ntmps28
  go_wp2
  go_ret
  exact ⟨by first | rfl | (simp; done) | (simp [*]; done), by repeat (first | exact Drawn0.refl _ | apply Drawn0.step)⟩
 ·
  rw [if_neg c4] at H
  have c4b0 : decide ((Int.tmod a0 a1) < 0) = false := decide_eq_false c4
  clear c4
  obtain rfl := Option.some.inj H
  go_enter Try.func28, Try.ntmps28
  go_wp2
  go_ret
  exact ⟨by first | rfl | (simp; done) | (simp [*]; done), by repeat (first | exact Drawn0.refl _ | apply Drawn0.step)⟩

/-! ### minecontrolref05_Ceil: function 29 -/
def minecontrolref05_Ceil.f (a0 : Int) (a1 : Int) : Option (Int) := (minecontrolref05_Floor.f (wrap64 (-a0)) a1).bind fun t231 => (some (wrap64 (-t231)))
set_option maxHeartbeats 8000000 in
set_option maxRecDepth 100000 in
theorem minecontrolref05_Ceil.calls (a0 : Int) (a1 : Int) (r : Int) (w : World) (h : minecontrolref05_Ceil.f a0 a1 = some r) :
  Calls Try.prog 29 #[.int .i64 a0, .int .i64 a1] w fun e w' => e = .returned (.int .i64 r) ∧ Drawn0 w w' := by
 have H : ((minecontrolref05_Floor.f (wrap64 (-a0)) a1).bind fun t231 => (some (wrap64 (-t231)))) = some r := h
 clear h
 replace H := Option.bind_eq_some_iff.mp H
 obtain ⟨t231, A30, H⟩ := H
 replace H : (some (wrap64 (-t231))) = some r := H
 have A3 := am A30
 clear A30
 obtain rfl := Option.some.inj H
 go_enter Try.func29, Try.ntmps29
 go_wp2_with (first | ((with_reducible refine gate_callee (f := 28) rfl ?_); refine goesL_ (some 8) rfl rfl Try.func28 (by kernel_rfl) rfl #[.int .i64 (wrap64 (-a0)), .int .i64 a1] rfl xv ?_; (with_reducible refine (minecontrolref05_Floor.calls (wrap64 (-a0)) a1 t231 _ A3.out).mono ?_); rintro e w' ⟨rfl, ⟨nd, rfl⟩⟩; refine ⟨_, rfl, ?_⟩))
 go_ret
 exact ⟨by first | rfl | (simp; done) | (simp [*]; done), by repeat (first | exact Drawn0.refl _ | apply Drawn0.step)⟩

end Go.Proofs.Ytbiempkdfnfpgaa.PA
