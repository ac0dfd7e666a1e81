-- written by a program of this session, a changed copy of the kit print
import Derived.Test.YtbiempkdfnfpgaaPAx0
import Derived.Test.YtbiempkdfnfpgaaPAx4
import Derived.Test.YtbiempkdfnfpgaaPAx6
import Derived.Test.YtbiempkdfnfpgaaQ
namespace Go.Proofs.Ytbiempkdfnfpgaa.PA
open Go.RowKit Go.Proofs.YtbiempkdfnfpgaaW.PrintWords Go.Proofs.YtbiempkdfnfpgaaW.PrintLast Go.Proofs.YtbiempkdfnfpgaaW.PrintMore Go.Proofs.Ytbiempkdfnfpgaa.Q
attribute [local go_sem] Instr.field asAgg part isAgg max2_int min2_int max_two min_two max_three min_three max_four min_four   -- for this text's walks alone
set_option linter.unusedVariables false
set_option linter.unusedSimpArgs false

/-! ### fan_Curve: function 14 -/
def fan_Curve.f (k : Nat) (a0_0 : Int) (a0_1 : Bool) (a0_2 : Bool) (l0_3 : List (S42)) (a1 : Int) : Option (Int × Int) := (fan_Check.f k a0_0 a0_1 a0_2 l0_3).bind fun t180 => (if t180 = 0 then ((fan_curve.f k a0_0 a0_1 a0_2 l0_3 a1).bind fun bt181 => (some (bt181.1, bt181.2))) else (some (0, 0)))
theorem fan_Curve.mono : ∀ a0 a1 a2 a3 a4 k, LeO (fan_Curve.f k a0 a1 a2 a3 a4) (fan_Curve.f (k + 1) a0 a1 a2 a3 a4) := by
 intro a0 a1 a2 a3 a4 k
 unfold fan_Curve.f
 repeat' first
   | (with_reducible exact fan_Check.mono _ _ _ _ _)
   | (with_reducible exact fan_curve.mono _ _ _ _ _ _)
   | (with_reducible exact LeO.refl _)
   | (with_reducible exact LeO.none _)
   | (with_reducible refine LeO.ite ?_ ?_)
   | (with_reducible refine LeO.bind ?_ (fun _ => ?_))
   | exact fan_Check.mono _ _ _ _ _
   | exact fan_curve.mono _ _ _ _ _ _
   | exact LeO.none _
   | refine LeO.ite ?_ ?_
   | refine LeO.bind ?_ (fun _ => ?_)
set_option maxHeartbeats 8000000 in
set_option maxRecDepth 100000 in
theorem fan_Curve.calls (k : Nat) (a0_0 : Int) (a0_1 : Bool) (a0_2 : Bool) (A0_3 : Option Addr) (c0_3 : Nat) (l0_3 : List (S42)) (a1 : Int) (r1 : Int) (r2 : Int) (w : World) (hr0_3 : Kd.C k42 w A0_3 l0_3.length l0_3) (hc0_3 : l0_3.length ≤ c0_3) (h : fan_Curve.f k a0_0 a0_1 a0_2 l0_3 a1 = some (r1, r2)) :
  Calls Try.prog 14 #[.agg #[.int .i64 a0_0, .bool a0_1, .bool a0_2, .slice A0_3 l0_3.length c0_3], .int .i64 a1] w fun e w' => e = .returned (.agg #[.int .i64 r1, .int .i64 r2]) ∧ Below w.heap.size w w' := by
 have hu25 := Try.underlying25
 have hu34 := Try.underlying34
 have HR0_3 := am hr0_3
 have HC0_3 := am hc0_3
 clear hr0_3 hc0_3
 have HB := am (Below.refl w.heap.size w)
 have H : ((fan_Check.f k a0_0 a0_1 a0_2 l0_3).bind fun t180 => (if t180 = 0 then ((fan_curve.f k a0_0 a0_1 a0_2 l0_3 a1).bind fun bt181 => (some (bt181.1, bt181.2))) else (some (0, 0)))) = some (r1, r2) := h
 clear h
 replace H := Option.bind_eq_some_iff.mp H
 obtain ⟨t180, A30, H⟩ := H
 replace H : (if t180 = 0 then ((fan_curve.f k a0_0 a0_1 a0_2 l0_3 a1).bind fun bt181 => (some (bt181.1, bt181.2))) else (some (0, 0))) = some (r1, r2) := H
 have A3 := am A30
 clear A30
 by_cases c4 : t180 = 0
 ·
  rw [if_pos c4] at H
  have c4b0 : (t180 == 0) = true := beq_iff_eq.mpr c4
  have c4b1 : (t180 != 0) = false := bne_eq_false_iff_eq.mpr c4
  clear c4
  replace H := Option.bind_eq_some_iff.mp H
  obtain ⟨⟨t181, t182⟩, A50, H⟩ := H
  replace H : (some (t181, t182)) = some (r1, r2) := H
  have A5 := am A50
  clear A50
  simp only [Option.some.injEq, Prod.mk.injEq] at H
  obtain ⟨rfl, rfl⟩ := H
  go_enter Try.func14, Try.ntmps14
  go_wp2_with (first | ((with_reducible refine gate_dst (N := 2) rfl ?_); refine xbox 2 (cs := #[.int .i64 a0_0, .bool a0_1, .bool a0_2, .slice A0_3 l0_3.length c0_3]) (t := 25) ?_; intro gb178 hg w6 hbox hb; have n0_ := am (below_step (xh HB) hb); have n1_ := am (hbox); have n2_ := am (xs hg HB); have n3_ := am (xs hg HB); clear HB; have HB := n0_; have BK178 := n1_; have GW178 := n2_; have GE178 := n3_; clear n0_ n1_ n2_ n3_; clear hb hbox hg) | ((with_reducible refine gate_dst (N := 4) rfl ?_); refine xbox 4 (cs := #[.int .i64 0, .int .i64 0]) (t := 34) ?_; intro gb179 hg w7 hbox hb; have n0_ := am (xw BK178 hb); have n1_ := am (below_step (xh HB) hb); have n2_ := am (hbox); have n3_ := am (xs hg HB); have n4_ := am (xs hg HB); have n5_ := am (xnl hg BK178); have n6_ := am (xng hg BK178); clear BK178; clear HB; have BK178 := n0_; have HB := n1_; have BK179 := n2_; have GW179 := n3_; have GE179 := n4_; have NB178_179 := n5_; have NB179_178 := n6_; clear n0_ n1_ n2_ n3_ n4_ n5_ n6_; clear hb hbox hg; have hnb8 := NB178_179.out; have hnc8 := NB179_178.out; have hcz9_0 : w7.cell? ⟨gb178, 0, none⟩ = some (.int .i64 a0_0) := (blk_cell BK178.out 0).trans rfl; have hcz9_1 : w7.cell? ⟨gb178, 1, none⟩ = some (.bool a0_1) := (blk_cell BK178.out 1).trans rfl; have hcz9_2 : w7.cell? ⟨gb178, 2, none⟩ = some (.bool a0_2) := (blk_cell BK178.out 2).trans rfl; have hcz9_3 : w7.cell? ⟨gb178, 3, none⟩ = some (.slice A0_3 l0_3.length c0_3) := (blk_cell BK178.out 3).trans rfl; have hfz9_0 := blk_frozen BK178.out 0; have hfz9_1 := blk_frozen BK178.out 1; have hfz9_2 := blk_frozen BK178.out 2; have hfz9_3 := blk_frozen BK178.out 3) | ((with_reducible refine gate_callee (f := 10) rfl ?_); refine goesL_ (some 6) rfl rfl Try.func10 (by kernel_rfl) rfl #[.agg #[.int .i64 a0_0, .bool a0_1, .bool a0_2, .slice A0_3 l0_3.length c0_3]] rfl xv ?_; (with_reducible refine (fan_Check.calls k a0_0 a0_1 a0_2 _ _ l0_3 t180 _ ?side1 ?side2 A3.out).mono ?_); (case side1 => exact xc2 (Kd.C_below HR0_3.out HB.out)); (case side2 => exact HC0_3.out); rintro e w10 ⟨rfl, hb⟩; refine ⟨_, rfl, ?_⟩; have n0_ := am (xw BK178 hb); have n1_ := am (xw BK179 hb); have n2_ := am (below_step (xh HB) hb); clear BK178; clear BK179; clear HB; have BK178 := n0_; have BK179 := n1_; have HB := n2_; clear n0_ n1_ n2_; (try clear hb); (try clear hb2); (try clear hk); (try clear hi); have hcz11_0 : w10.cell? ⟨gb178, 0, none⟩ = some (.int .i64 a0_0) := (blk_cell BK178.out 0).trans rfl; have hcz11_1 : w10.cell? ⟨gb178, 1, none⟩ = some (.bool a0_1) := (blk_cell BK178.out 1).trans rfl; have hcz11_2 : w10.cell? ⟨gb178, 2, none⟩ = some (.bool a0_2) := (blk_cell BK178.out 2).trans rfl; have hcz11_3 : w10.cell? ⟨gb178, 3, none⟩ = some (.slice A0_3 l0_3.length c0_3) := (blk_cell BK178.out 3).trans rfl; have hfz11_0 := blk_frozen BK178.out 0; have hfz11_1 := blk_frozen BK178.out 1; have hfz11_2 := blk_frozen BK178.out 2; have hfz11_3 := blk_frozen BK178.out 3) | ((with_reducible refine gate_callee (f := 22) rfl ?_); refine goesL_ (some 11) rfl rfl Try.func22 (by kernel_rfl) rfl #[.agg #[.int .i64 a0_0, .bool a0_1, .bool a0_2, .slice A0_3 l0_3.length c0_3], .int .i64 a1] rfl xv ?_; (with_reducible refine (fan_curve.calls k a0_0 a0_1 a0_2 _ _ l0_3 a1 t181 t182 _ ?side1 ?side2 A5.out).mono ?_); (case side1 => exact xc2 (Kd.C_below HR0_3.out HB.out)); (case side2 => exact HC0_3.out); rintro e w12 ⟨rfl, hb⟩; refine ⟨_, rfl, ?_⟩; have n0_ := am (xw BK178 hb); have n1_ := am (xw BK179 hb); have n2_ := am (below_step (xh HB) hb); clear BK178; clear BK179; clear HB; have BK178 := n0_; have BK179 := n1_; have HB := n2_; clear n0_ n1_ n2_; (try clear hb); (try clear hb2); (try clear hk); (try clear hi); have hcz13_0 : w12.cell? ⟨gb179, 0, none⟩ = some (.int .i64 0) := (blk_cell BK179.out 0).trans rfl; have hcz13_1 : w12.cell? ⟨gb179, 1, none⟩ = some (.int .i64 0) := (blk_cell BK179.out 1).trans rfl; have hfz13_0 := blk_frozen BK179.out 0; have hfz13_1 := blk_frozen BK179.out 1))
  refine bodyPost_ret (results_cell_row rfl _ _ gb179 34 #[.int .i64 t181, .int .i64 t182] (0, 0) _ rfl (by (with_reducible repeat (first | refine blk_drewN ?_ _ | refine blk_drew ?_ | refine blk_alloc ?_ _)); refine blk_put (cs := #[.int .i64 t181, .int .i64 0]) ?_ 1 _ rfl; (with_reducible repeat (first | refine blk_drewN ?_ _ | refine blk_drew ?_ | refine blk_alloc ?_ _)); refine blk_put (cs := #[.int .i64 0, .int .i64 0]) ?_ 0 _ rfl; (with_reducible repeat (first | refine blk_drewN ?_ _ | refine blk_drew ?_ | refine blk_alloc ?_ _)); exact BK179.out) Try.underlying34 rfl (by kernel_rfl)) rfl ?_
  exact ⟨by first | rfl | (simp [errW_none, errW_some] <;> rfl) | (simp [*, errW_none, errW_some] <;> rfl), xh HB⟩
 ·
  rw [if_neg c4] at H
  have c4b0 : (t180 == 0) = false := beq_eq_false_iff_ne.mpr c4
  have c4b1 : (t180 != 0) = true := bne_iff_ne.mpr c4
  simp only [Option.some.injEq, Prod.mk.injEq] at H
  obtain ⟨rfl, rfl⟩ := H
  go_enter Try.func14, Try.ntmps14
  go_wp2_with (first | ((with_reducible refine gate_dst (N := 2) rfl ?_); refine xbox 2 (cs := #[.int .i64 a0_0, .bool a0_1, .bool a0_2, .slice A0_3 l0_3.length c0_3]) (t := 25) ?_; intro gb178 hg w14 hbox hb; have n0_ := am (below_step (xh HB) hb); have n1_ := am (hbox); have n2_ := am (xs hg HB); have n3_ := am (xs hg HB); clear HB; have HB := n0_; have BK178 := n1_; have GW178 := n2_; have GE178 := n3_; clear n0_ n1_ n2_ n3_; clear hb hbox hg) | ((with_reducible refine gate_dst (N := 4) rfl ?_); refine xbox 4 (cs := #[.int .i64 0, .int .i64 0]) (t := 34) ?_; intro gb179 hg w15 hbox hb; have n0_ := am (xw BK178 hb); have n1_ := am (below_step (xh HB) hb); have n2_ := am (hbox); have n3_ := am (xs hg HB); have n4_ := am (xs hg HB); have n5_ := am (xnl hg BK178); have n6_ := am (xng hg BK178); clear BK178; clear HB; have BK178 := n0_; have HB := n1_; have BK179 := n2_; have GW179 := n3_; have GE179 := n4_; have NB178_179 := n5_; have NB179_178 := n6_; clear n0_ n1_ n2_ n3_ n4_ n5_ n6_; clear hb hbox hg; have hnb16 := NB178_179.out; have hnc16 := NB179_178.out; have hcz17_0 : w15.cell? ⟨gb178, 0, none⟩ = some (.int .i64 a0_0) := (blk_cell BK178.out 0).trans rfl; have hcz17_1 : w15.cell? ⟨gb178, 1, none⟩ = some (.bool a0_1) := (blk_cell BK178.out 1).trans rfl; have hcz17_2 : w15.cell? ⟨gb178, 2, none⟩ = some (.bool a0_2) := (blk_cell BK178.out 2).trans rfl; have hcz17_3 : w15.cell? ⟨gb178, 3, none⟩ = some (.slice A0_3 l0_3.length c0_3) := (blk_cell BK178.out 3).trans rfl; have hfz17_0 := blk_frozen BK178.out 0; have hfz17_1 := blk_frozen BK178.out 1; have hfz17_2 := blk_frozen BK178.out 2; have hfz17_3 := blk_frozen BK178.out 3) | ((with_reducible refine gate_callee (f := 10) rfl ?_); refine goesL_ (some 6) rfl rfl Try.func10 (by kernel_rfl) rfl #[.agg #[.int .i64 a0_0, .bool a0_1, .bool a0_2, .slice A0_3 l0_3.length c0_3]] rfl xv ?_; (with_reducible refine (fan_Check.calls k a0_0 a0_1 a0_2 _ _ l0_3 t180 _ ?side1 ?side2 A3.out).mono ?_); (case side1 => exact xc2 (Kd.C_below HR0_3.out HB.out)); (case side2 => exact HC0_3.out); rintro e w18 ⟨rfl, hb⟩; refine ⟨_, rfl, ?_⟩; have n0_ := am (xw BK178 hb); have n1_ := am (xw BK179 hb); have n2_ := am (below_step (xh HB) hb); clear BK178; clear BK179; clear HB; have BK178 := n0_; have BK179 := n1_; have HB := n2_; clear n0_ n1_ n2_; (try clear hb); (try clear hb2); (try clear hk); (try clear hi); have hcz19_0 : w18.cell? ⟨gb179, 0, none⟩ = some (.int .i64 0) := (blk_cell BK179.out 0).trans rfl; have hcz19_1 : w18.cell? ⟨gb179, 1, none⟩ = some (.int .i64 0) := (blk_cell BK179.out 1).trans rfl; have hfz19_0 := blk_frozen BK179.out 0; have hfz19_1 := blk_frozen BK179.out 1))
  refine bodyPost_ret (results_cell_row rfl _ _ gb179 34 #[.int .i64 0, .int .i64 0] (0, 0) _ rfl (by (with_reducible repeat (first | refine blk_drewN ?_ _ | refine blk_drew ?_ | refine blk_alloc ?_ _)); refine blk_put (cs := #[.int .i64 0, .int .i64 0]) ?_ 1 _ rfl; (with_reducible repeat (first | refine blk_drewN ?_ _ | refine blk_drew ?_ | refine blk_alloc ?_ _)); refine blk_put (cs := #[.int .i64 0, .int .i64 0]) ?_ 0 _ rfl; (with_reducible repeat (first | refine blk_drewN ?_ _ | refine blk_drew ?_ | refine blk_alloc ?_ _)); exact BK179.out) Try.underlying34 rfl (by kernel_rfl)) rfl ?_
  exact ⟨by first | rfl | (simp [errW_none, errW_some] <;> rfl) | (simp [*, errW_none, errW_some] <;> rfl), xh HB⟩

/-! ### fan_along: function 30 -/
def fan_along.f (k : Nat) (a0_0 : Int) (a0_1 : Bool) (a0_2 : Bool) (l0_3 : List (S42)) (a1 : Bool) (a2 : Int) : Option (Int × Int) := if a1 = true then ((fan_curve.f k a0_0 a0_1 a0_2 l0_3 (wrap64 (-a2))).bind fun bt185 => (some (wrap64 (-bt185.2), wrap64 (-bt185.1)))) else ((fan_curve.f k a0_0 a0_1 a0_2 l0_3 a2).bind fun bt188 => (some (bt188.1, bt188.2)))
theorem fan_along.mono : ∀ a0 a1 a2 a3 a4 a5 k, LeO (fan_along.f k a0 a1 a2 a3 a4 a5) (fan_along.f (k + 1) a0 a1 a2 a3 a4 a5) := by
 intro a0 a1 a2 a3 a4 a5 k
 unfold fan_along.f
 repeat' first
   | (with_reducible exact fan_curve.mono _ _ _ _ _ _)
   | (with_reducible exact LeO.refl _)
   | (with_reducible exact LeO.none _)
   | (with_reducible refine LeO.ite ?_ ?_)
   | (with_reducible refine LeO.bind ?_ (fun _ => ?_))
   | exact fan_curve.mono _ _ _ _ _ _
   | exact LeO.none _
   | refine LeO.ite ?_ ?_
   | refine LeO.bind ?_ (fun _ => ?_)
set_option maxHeartbeats 8000000 in
set_option maxRecDepth 100000 in
theorem fan_along.calls (k : Nat) (a0_0 : Int) (a0_1 : Bool) (a0_2 : Bool) (A0_3 : Option Addr) (c0_3 : Nat) (l0_3 : List (S42)) (a1 : Bool) (a2 : Int) (r1 : Int) (r2 : Int) (w : World) (hr0_3 : Kd.C k42 w A0_3 l0_3.length l0_3) (hc0_3 : l0_3.length ≤ c0_3) (h : fan_along.f k a0_0 a0_1 a0_2 l0_3 a1 a2 = some (r1, r2)) :
  Calls Try.prog 30 #[.agg #[.int .i64 a0_0, .bool a0_1, .bool a0_2, .slice A0_3 l0_3.length c0_3], .bool a1, .int .i64 a2] w fun e w' => e = .returned (.agg #[.int .i64 r1, .int .i64 r2]) ∧ Below w.heap.size w w' := by
 have hu25 := Try.underlying25
 have hu34 := Try.underlying34
 have HR0_3 := am hr0_3
 have HC0_3 := am hc0_3
 clear hr0_3 hc0_3
 have HB := am (Below.refl w.heap.size w)
 have H : (if a1 = true then ((fan_curve.f k a0_0 a0_1 a0_2 l0_3 (wrap64 (-a2))).bind fun bt185 => (some (wrap64 (-bt185.2), wrap64 (-bt185.1)))) else ((fan_curve.f k a0_0 a0_1 a0_2 l0_3 a2).bind fun bt188 => (some (bt188.1, bt188.2)))) = some (r1, r2) := h
 clear h
 by_cases c4 : a1 = true
 ·
  subst c4
  have H1 : ((fan_curve.f k a0_0 a0_1 a0_2 l0_3 (wrap64 (-a2))).bind fun bt185 => (some (wrap64 (-bt185.2), wrap64 (-bt185.1)))) = some (r1, r2) := by rw [if_pos rfl] at H; exact H
  clear H
  have H := H1
  clear H1
  replace H := Option.bind_eq_some_iff.mp H
  obtain ⟨⟨t185, t186⟩, A50, H⟩ := H
  replace H : (some (wrap64 (-t186), wrap64 (-t185))) = some (r1, r2) := H
  have A5 := am A50
  clear A50
  simp only [Option.some.injEq, Prod.mk.injEq] at H
  obtain ⟨rfl, rfl⟩ := H
  go_enter Try.func30, Try.ntmps30
  go_wp2_with (first | ((with_reducible refine gate_dst (N := 3) rfl ?_); refine xbox 3 (cs := #[.int .i64 a0_0, .bool a0_1, .bool a0_2, .slice A0_3 l0_3.length c0_3]) (t := 25) ?_; intro gb183 hg w6 hbox hb; have n0_ := am (below_step (xh HB) hb); have n1_ := am (hbox); have n2_ := am (xs hg HB); have n3_ := am (xs hg HB); clear HB; have HB := n0_; have BK183 := n1_; have GW183 := n2_; have GE183 := n3_; clear n0_ n1_ n2_ n3_; clear hb hbox hg) | ((with_reducible refine gate_dst (N := 6) rfl ?_); refine xbox 6 (cs := #[.int .i64 0, .int .i64 0]) (t := 34) ?_; intro gb184 hg w7 hbox hb; have n0_ := am (xw BK183 hb); have n1_ := am (below_step (xh HB) hb); have n2_ := am (hbox); have n3_ := am (xs hg HB); have n4_ := am (xs hg HB); have n5_ := am (xnl hg BK183); have n6_ := am (xng hg BK183); clear BK183; clear HB; have BK183 := n0_; have HB := n1_; have BK184 := n2_; have GW184 := n3_; have GE184 := n4_; have NB183_184 := n5_; have NB184_183 := n6_; clear n0_ n1_ n2_ n3_ n4_ n5_ n6_; clear hb hbox hg; have hnb8 := NB183_184.out; have hnc8 := NB184_183.out; have hcz9_0 : w7.cell? ⟨gb183, 0, none⟩ = some (.int .i64 a0_0) := (blk_cell BK183.out 0).trans rfl; have hcz9_1 : w7.cell? ⟨gb183, 1, none⟩ = some (.bool a0_1) := (blk_cell BK183.out 1).trans rfl; have hcz9_2 : w7.cell? ⟨gb183, 2, none⟩ = some (.bool a0_2) := (blk_cell BK183.out 2).trans rfl; have hcz9_3 : w7.cell? ⟨gb183, 3, none⟩ = some (.slice A0_3 l0_3.length c0_3) := (blk_cell BK183.out 3).trans rfl; have hfz9_0 := blk_frozen BK183.out 0; have hfz9_1 := blk_frozen BK183.out 1; have hfz9_2 := blk_frozen BK183.out 2; have hfz9_3 := blk_frozen BK183.out 3) | ((with_reducible refine gate_callee (f := 22) rfl ?_); refine goesL_ (some 16) rfl rfl Try.func22 (by kernel_rfl) rfl #[.agg #[.int .i64 a0_0, .bool a0_1, .bool a0_2, .slice A0_3 l0_3.length c0_3], .int .i64 (wrap64 (-a2))] rfl xv ?_; (with_reducible refine (fan_curve.calls k a0_0 a0_1 a0_2 _ _ l0_3 (wrap64 (-a2)) t185 t186 _ ?side1 ?side2 A5.out).mono ?_); (case side1 => exact xc2 (Kd.C_below HR0_3.out HB.out)); (case side2 => exact HC0_3.out); rintro e w10 ⟨rfl, hb⟩; refine ⟨_, rfl, ?_⟩; have n0_ := am (xw BK183 hb); have n1_ := am (xw BK184 hb); have n2_ := am (below_step (xh HB) hb); clear BK183; clear BK184; clear HB; have BK183 := n0_; have BK184 := n1_; have HB := n2_; clear n0_ n1_ n2_; (try clear hb); (try clear hb2); (try clear hk); (try clear hi)) | ((with_reducible refine gate_dst (N := 7) rfl ?_); refine xbox 7 (cs := #[.int .i64 0, .int .i64 0]) (t := 34) ?_; intro gb187 hg w11 hbox hb; have n0_ := am (xw BK183 hb); have n1_ := am (xw BK184 hb); have n2_ := am (below_step (xh HB) hb); have n3_ := am (hbox); have n4_ := am (xs hg HB); have n5_ := am (xs hg HB); have n6_ := am (xnl hg BK183); have n7_ := am (xng hg BK183); have n8_ := am (xnl hg BK184); have n9_ := am (xng hg BK184); clear BK183; clear BK184; clear HB; have BK183 := n0_; have BK184 := n1_; have HB := n2_; have BK187 := n3_; have GW187 := n4_; have GE187 := n5_; have NB183_187 := n6_; have NB187_183 := n7_; have NB184_187 := n8_; have NB187_184 := n9_; clear n0_ n1_ n2_ n3_ n4_ n5_ n6_ n7_ n8_ n9_; clear hb hbox hg; have hnb12 := NB187_183.out; have hnc12 := NB183_187.out; have hnb13 := NB187_184.out; have hnc13 := NB184_187.out; have hcz14_0 : w11.cell? ⟨gb187, 0, none⟩ = some (.int .i64 0) := (blk_cell BK187.out 0).trans rfl; have hcz14_1 : w11.cell? ⟨gb187, 1, none⟩ = some (.int .i64 0) := (blk_cell BK187.out 1).trans rfl; have hfz14_0 := blk_frozen BK187.out 0; have hfz14_1 := blk_frozen BK187.out 1; have hcz15_0 : w11.cell? ⟨gb184, 0, none⟩ = some (.int .i64 0) := (blk_cell BK184.out 0).trans rfl; have hcz15_1 : w11.cell? ⟨gb184, 1, none⟩ = some (.int .i64 0) := (blk_cell BK184.out 1).trans rfl; have hfz15_0 := blk_frozen BK184.out 0; have hfz15_1 := blk_frozen BK184.out 1))
  refine bodyPost_ret (results_cell_row rfl _ _ gb184 34 #[.int .i64 (wrap64 (-t186)), .int .i64 (wrap64 (-t185))] (0, 0) _ rfl (by (with_reducible repeat (first | refine blk_drewN ?_ _ | refine blk_drew ?_ | refine blk_alloc ?_ _)); refine blk_put (cs := #[.int .i64 (wrap64 (-t186)), .int .i64 0]) ?_ 1 _ rfl; (with_reducible repeat (first | refine blk_drewN ?_ _ | refine blk_drew ?_ | refine blk_alloc ?_ _)); refine blk_put (cs := #[.int .i64 0, .int .i64 0]) ?_ 0 _ rfl; (with_reducible repeat (first | refine blk_drewN ?_ _ | refine blk_drew ?_ | refine blk_alloc ?_ _)); refine blk_far ?_ NB184_187.out _; (with_reducible repeat (first | refine blk_drewN ?_ _ | refine blk_drew ?_ | refine blk_alloc ?_ _)); refine blk_far ?_ NB184_187.out _; (with_reducible repeat (first | refine blk_drewN ?_ _ | refine blk_drew ?_ | refine blk_alloc ?_ _)); exact BK184.out) Try.underlying34 rfl (by kernel_rfl)) rfl ?_
  exact ⟨by first | rfl | (simp [errW_none, errW_some] <;> rfl) | (simp [*, errW_none, errW_some] <;> rfl), xh HB⟩
 ·
  replace c4 := Bool.eq_false_iff.mpr c4
  subst c4
  have H1 : ((fan_curve.f k a0_0 a0_1 a0_2 l0_3 a2).bind fun bt188 => (some (bt188.1, bt188.2))) = some (r1, r2) := by rw [if_neg (show ¬ (false = true) by decide)] at H; exact H
  clear H
  have H := H1
  clear H1
  replace H := Option.bind_eq_some_iff.mp H
  obtain ⟨⟨t188, t189⟩, A160, H⟩ := H
  replace H : (some (t188, t189)) = some (r1, r2) := H
  have A16 := am A160
  clear A160
  simp only [Option.some.injEq, Prod.mk.injEq] at H
  obtain ⟨rfl, rfl⟩ := H
  go_enter Try.func30, Try.ntmps30
  go_wp2_with (first | ((with_reducible refine gate_dst (N := 3) rfl ?_); refine xbox 3 (cs := #[.int .i64 a0_0, .bool a0_1, .bool a0_2, .slice A0_3 l0_3.length c0_3]) (t := 25) ?_; intro gb183 hg w17 hbox hb; have n0_ := am (below_step (xh HB) hb); have n1_ := am (hbox); have n2_ := am (xs hg HB); have n3_ := am (xs hg HB); clear HB; have HB := n0_; have BK183 := n1_; have GW183 := n2_; have GE183 := n3_; clear n0_ n1_ n2_ n3_; clear hb hbox hg) | ((with_reducible refine gate_dst (N := 6) rfl ?_); refine xbox 6 (cs := #[.int .i64 0, .int .i64 0]) (t := 34) ?_; intro gb184 hg w18 hbox hb; have n0_ := am (xw BK183 hb); have n1_ := am (below_step (xh HB) hb); have n2_ := am (hbox); have n3_ := am (xs hg HB); have n4_ := am (xs hg HB); have n5_ := am (xnl hg BK183); have n6_ := am (xng hg BK183); clear BK183; clear HB; have BK183 := n0_; have HB := n1_; have BK184 := n2_; have GW184 := n3_; have GE184 := n4_; have NB183_184 := n5_; have NB184_183 := n6_; clear n0_ n1_ n2_ n3_ n4_ n5_ n6_; clear hb hbox hg; have hnb19 := NB183_184.out; have hnc19 := NB184_183.out; have hcz20_0 : w18.cell? ⟨gb183, 0, none⟩ = some (.int .i64 a0_0) := (blk_cell BK183.out 0).trans rfl; have hcz20_1 : w18.cell? ⟨gb183, 1, none⟩ = some (.bool a0_1) := (blk_cell BK183.out 1).trans rfl; have hcz20_2 : w18.cell? ⟨gb183, 2, none⟩ = some (.bool a0_2) := (blk_cell BK183.out 2).trans rfl; have hcz20_3 : w18.cell? ⟨gb183, 3, none⟩ = some (.slice A0_3 l0_3.length c0_3) := (blk_cell BK183.out 3).trans rfl; have hfz20_0 := blk_frozen BK183.out 0; have hfz20_1 := blk_frozen BK183.out 1; have hfz20_2 := blk_frozen BK183.out 2; have hfz20_3 := blk_frozen BK183.out 3) | ((with_reducible refine gate_callee (f := 22) rfl ?_); refine goesL_ (some 12) rfl rfl Try.func22 (by kernel_rfl) rfl #[.agg #[.int .i64 a0_0, .bool a0_1, .bool a0_2, .slice A0_3 l0_3.length c0_3], .int .i64 a2] rfl xv ?_; (with_reducible refine (fan_curve.calls k a0_0 a0_1 a0_2 _ _ l0_3 a2 t188 t189 _ ?side1 ?side2 A16.out).mono ?_); (case side1 => exact xc2 (Kd.C_below HR0_3.out HB.out)); (case side2 => exact HC0_3.out); rintro e w21 ⟨rfl, hb⟩; refine ⟨_, rfl, ?_⟩; have n0_ := am (xw BK183 hb); have n1_ := am (xw BK184 hb); have n2_ := am (below_step (xh HB) hb); clear BK183; clear BK184; clear HB; have BK183 := n0_; have BK184 := n1_; have HB := n2_; clear n0_ n1_ n2_; (try clear hb); (try clear hb2); (try clear hk); (try clear hi); have hcz22_0 : w21.cell? ⟨gb184, 0, none⟩ = some (.int .i64 0) := (blk_cell BK184.out 0).trans rfl; have hcz22_1 : w21.cell? ⟨gb184, 1, none⟩ = some (.int .i64 0) := (blk_cell BK184.out 1).trans rfl; have hfz22_0 := blk_frozen BK184.out 0; have hfz22_1 := blk_frozen BK184.out 1))
  refine bodyPost_ret (results_cell_row rfl _ _ gb184 34 #[.int .i64 t188, .int .i64 t189] (0, 0) _ rfl (by (with_reducible repeat (first | refine blk_drewN ?_ _ | refine blk_drew ?_ | refine blk_alloc ?_ _)); refine blk_put (cs := #[.int .i64 t188, .int .i64 0]) ?_ 1 _ rfl; (with_reducible repeat (first | refine blk_drewN ?_ _ | refine blk_drew ?_ | refine blk_alloc ?_ _)); refine blk_put (cs := #[.int .i64 0, .int .i64 0]) ?_ 0 _ rfl; (with_reducible repeat (first | refine blk_drewN ?_ _ | refine blk_drew ?_ | refine blk_alloc ?_ _)); exact BK184.out) Try.underlying34 rfl (by kernel_rfl)) rfl ?_
  exact ⟨by first | rfl | (simp [errW_none, errW_some] <;> rfl) | (simp [*, errW_none, errW_some] <;> rfl), xh HB⟩

end Go.Proofs.Ytbiempkdfnfpgaa.PA
