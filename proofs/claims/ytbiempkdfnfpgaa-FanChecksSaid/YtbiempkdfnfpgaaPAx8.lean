-- written by a program of this session, a changed copy of the kit print
import Derived.Test.YtbiempkdfnfpgaaPAx0
import Derived.Test.YtbiempkdfnfpgaaPAx7
import Derived.Test.YtbiempkdfnfpgaaQ
namespace Go.Proofs.Ytbiempkdfnfpgaa.PA
open Go.RowKit Go.Proofs.YtbiempkdfnfpgaaW.PrintWords Go.Proofs.YtbiempkdfnfpgaaW.PrintLast Go.Proofs.YtbiempkdfnfpgaaW.PrintMore Go.Proofs.Ytbiempkdfnfpgaa.Q
attribute [local go_sem] Instr.field asAgg part isAgg max2_int min2_int max_two min_two max_three min_three max_four min_four   -- for this text's walks alone
set_option linter.unusedVariables false
set_option linter.unusedSimpArgs false

/-! ### fan_Sure: function 24 -/
def fan_Sure.f (k : Nat) (a0_0 : Int) (a0_1 : Bool) (a0_2 : Bool) (l0_3 : List (S42)) (a1 : Int) (a2 : Int) : Option (Int × Int) := if a1 = 1 then ((fan_along.f k a0_0 a0_1 a0_2 l0_3 a0_1 a2).bind fun bt192 => (some (bt192.1, bt192.2))) else (if a1 = 2 then ((fan_along.f k a0_0 a0_1 a0_2 l0_3 (!a0_1) a2).bind fun bt194 => (some (bt194.1, bt194.2))) else (if a1 = (-1) then ((fan_along.f k a0_0 a0_1 a0_2 l0_3 false a2).bind fun bt196 => ((fan_along.f k a0_0 a0_1 a0_2 l0_3 true a2).bind fun bt198 => (some (mn (mn 0 bt196.1) bt198.1, mx (mx 0 bt196.2) bt198.2)))) else (some (0, 0))))
theorem fan_Sure.mono : ∀ a0 a1 a2 a3 a4 a5 k, LeO (fan_Sure.f k a0 a1 a2 a3 a4 a5) (fan_Sure.f (k + 1) a0 a1 a2 a3 a4 a5) := by
 intro a0 a1 a2 a3 a4 a5 k
 unfold fan_Sure.f
 repeat' first
   | (with_reducible exact fan_along.mono _ _ _ _ _ _ _)
   | (with_reducible exact LeO.refl _)
   | (with_reducible exact LeO.none _)
   | (with_reducible refine LeO.ite ?_ ?_)
   | (with_reducible refine LeO.bind ?_ (fun _ => ?_))
   | exact fan_along.mono _ _ _ _ _ _ _
   | exact LeO.none _
   | refine LeO.ite ?_ ?_
   | refine LeO.bind ?_ (fun _ => ?_)
def fan_Sure.T7 : Bool × List (List Nat × List Nat) := (true, [([], []), ([], []), ([0, 1], [0, 1]), ([], []), ([], []), ([3, 4, 2], [3, 4]), ([], []), ([], []), ([6, 2, 5, 0, 1, 2, 6, 7], [2, 6]), ([7, 5, 8, 0, 1, 2, 3, 4, 5, 6, 7, 8], [5, 7])])
def fan_Sure.B7 : List Nat := [0, 0, 3, 0, 0, 31, 0, 0, 255, 511]
theorem fan_Sure.tab7 : rtab .any (opsOf Try.f24 7) = fan_Sure.T7 := by kernel_rfl
theorem fan_Sure.bits7 : waitsOk fan_Sure.T7.2 fan_Sure.B7 = true := by kernel_rfl
set_option maxHeartbeats 8000000 in
set_option maxRecDepth 100000 in
theorem fan_Sure.calls (k : Nat) (a0_0 : Int) (a0_1 : Bool) (a0_2 : Bool) (A0_3 : Option Addr) (c0_3 : Nat) (l0_3 : List (S42)) (a1 : Int) (a2 : Int) (r1 : Int) (r2 : Int) (w : World) (hr0_3 : Kd.C k42 w A0_3 l0_3.length l0_3) (hc0_3 : l0_3.length ≤ c0_3) (h : fan_Sure.f k a0_0 a0_1 a0_2 l0_3 a1 a2 = some (r1, r2)) :
  Calls Try.prog 24 #[.agg #[.int .i64 a0_0, .bool a0_1, .bool a0_2, .slice A0_3 l0_3.length c0_3], .int .i64 a1, .int .i64 a2] w fun e w' => e = .returned (.agg #[.int .i64 r1, .int .i64 r2]) ∧ Below w.heap.size w w' := by
 have hu25 := Try.underlying25
 have hu34 := Try.underlying34
 have HR0_3 := am hr0_3
 have HC0_3 := am hc0_3
 clear hr0_3 hc0_3
 have HB := am (Below.refl w.heap.size w)
 have H : (if a1 = 1 then ((fan_along.f k a0_0 a0_1 a0_2 l0_3 a0_1 a2).bind fun bt192 => (some (bt192.1, bt192.2))) else (if a1 = 2 then ((fan_along.f k a0_0 a0_1 a0_2 l0_3 (!a0_1) a2).bind fun bt194 => (some (bt194.1, bt194.2))) else (if a1 = (-1) then ((fan_along.f k a0_0 a0_1 a0_2 l0_3 false a2).bind fun bt196 => ((fan_along.f k a0_0 a0_1 a0_2 l0_3 true a2).bind fun bt198 => (some (mn (mn 0 bt196.1) bt198.1, mx (mx 0 bt196.2) bt198.2)))) else (some (0, 0))))) = some (r1, r2) := h
 clear h
 by_cases c4 : a1 = 1
 ·
  rw [if_pos c4] at H
  have c4b0 : (a1 == 1) = true := beq_iff_eq.mpr c4
  have c4b1 : (a1 != 1) = false := bne_eq_false_iff_eq.mpr c4
  clear c4
  replace H := Option.bind_eq_some_iff.mp H
  obtain ⟨⟨t192, t193⟩, A50, H⟩ := H
  replace H : (some (t192, t193)) = some (r1, r2) := H
  have A5 := am A50
  clear A50
  simp only [Option.some.injEq, Prod.mk.injEq] at H
  obtain ⟨rfl, rfl⟩ := H
  go_enter Try.func24, Try.ntmps24
  go_wp2_with (first | ((with_reducible refine gate_dst (N := 3) rfl ?_); refine xbox 3 (cs := #[.int .i64 a0_0, .bool a0_1, .bool a0_2, .slice A0_3 l0_3.length c0_3]) (t := 25) ?_; intro gb190 hg w6 hbox hb; have n0_ := am (below_step (xh HB) hb); have n1_ := am (hbox); have n2_ := am (xs hg HB); have n3_ := am (xs hg HB); clear HB; have HB := n0_; have BK190 := n1_; have GW190 := n2_; have GE190 := n3_; clear n0_ n1_ n2_ n3_; clear hb hbox hg) | ((with_reducible refine gate_dst (N := 6) rfl ?_); refine xbox 6 (cs := #[.int .i64 0, .int .i64 0]) (t := 34) ?_; intro gb191 hg w7 hbox hb; have n0_ := am (xw BK190 hb); have n1_ := am (below_step (xh HB) hb); have n2_ := am (hbox); have n3_ := am (xs hg HB); have n4_ := am (xs hg HB); have n5_ := am (xnl hg BK190); have n6_ := am (xng hg BK190); clear BK190; clear HB; have BK190 := n0_; have HB := n1_; have BK191 := n2_; have GW191 := n3_; have GE191 := n4_; have NB190_191 := n5_; have NB191_190 := n6_; clear n0_ n1_ n2_ n3_ n4_ n5_ n6_; clear hb hbox hg; have hnb8 := NB190_191.out; have hnc8 := NB191_190.out; have hcz9_0 : w7.cell? ⟨gb190, 0, none⟩ = some (.int .i64 a0_0) := (blk_cell BK190.out 0).trans rfl; have hcz9_1 : w7.cell? ⟨gb190, 1, none⟩ = some (.bool a0_1) := (blk_cell BK190.out 1).trans rfl; have hcz9_2 : w7.cell? ⟨gb190, 2, none⟩ = some (.bool a0_2) := (blk_cell BK190.out 2).trans rfl; have hcz9_3 : w7.cell? ⟨gb190, 3, none⟩ = some (.slice A0_3 l0_3.length c0_3) := (blk_cell BK190.out 3).trans rfl; have hfz9_0 := blk_frozen BK190.out 0; have hfz9_1 := blk_frozen BK190.out 1; have hfz9_2 := blk_frozen BK190.out 2; have hfz9_3 := blk_frozen BK190.out 3) | ((with_reducible refine gate_callee (f := 30) rfl ?_); refine goesL_ (some 16) rfl rfl Try.func30 (by kernel_rfl) rfl #[.agg #[.int .i64 a0_0, .bool a0_1, .bool a0_2, .slice A0_3 l0_3.length c0_3], .bool a0_1, .int .i64 a2] rfl xv ?_; (with_reducible refine (fan_along.calls k a0_0 a0_1 a0_2 _ _ l0_3 a0_1 a2 t192 t193 _ ?side1 ?side2 A5.out).mono ?_); (case side1 => exact xc2 (Kd.C_below HR0_3.out HB.out)); (case side2 => exact HC0_3.out); rintro e w10 ⟨rfl, hb⟩; refine ⟨_, rfl, ?_⟩; have n0_ := am (xw BK190 hb); have n1_ := am (xw BK191 hb); have n2_ := am (below_step (xh HB) hb); clear BK190; clear BK191; clear HB; have BK190 := n0_; have BK191 := n1_; have HB := n2_; clear n0_ n1_ n2_; (try clear hb); (try clear hb2); (try clear hk); (try clear hi); have hcz11_0 : w10.cell? ⟨gb191, 0, none⟩ = some (.int .i64 0) := (blk_cell BK191.out 0).trans rfl; have hcz11_1 : w10.cell? ⟨gb191, 1, none⟩ = some (.int .i64 0) := (blk_cell BK191.out 1).trans rfl; have hfz11_0 := blk_frozen BK191.out 0; have hfz11_1 := blk_frozen BK191.out 1))
  refine bodyPost_ret (results_cell_row rfl _ _ gb191 34 #[.int .i64 t192, .int .i64 t193] (0, 0) _ rfl (by (with_reducible repeat (first | refine blk_drewN ?_ _ | refine blk_drew ?_ | refine blk_alloc ?_ _)); refine blk_put (cs := #[.int .i64 t192, .int .i64 0]) ?_ 1 _ rfl; (with_reducible repeat (first | refine blk_drewN ?_ _ | refine blk_drew ?_ | refine blk_alloc ?_ _)); refine blk_put (cs := #[.int .i64 0, .int .i64 0]) ?_ 0 _ rfl; (with_reducible repeat (first | refine blk_drewN ?_ _ | refine blk_drew ?_ | refine blk_alloc ?_ _)); exact BK191.out) Try.underlying34 rfl (by kernel_rfl)) rfl ?_
  exact ⟨by first | rfl | (simp [errW_none, errW_some] <;> rfl) | (simp [*, errW_none, errW_some] <;> rfl), xh HB⟩
 ·
  rw [if_neg c4] at H
  have c4b0 : (a1 == 1) = false := beq_eq_false_iff_ne.mpr c4
  have c4b1 : (a1 != 1) = true := bne_iff_ne.mpr c4
  by_cases c12 : a1 = 2
  ·
   rw [if_pos c12] at H
   have c12b0 : (a1 == 2) = true := beq_iff_eq.mpr c12
   have c12b1 : (a1 != 2) = false := bne_eq_false_iff_eq.mpr c12
   clear c12
   replace H := Option.bind_eq_some_iff.mp H
   obtain ⟨⟨t194, t195⟩, A130, H⟩ := H
   replace H : (some (t194, t195)) = some (r1, r2) := H
   have A13 := am A130
   clear A130
   simp only [Option.some.injEq, Prod.mk.injEq] at H
   obtain ⟨rfl, rfl⟩ := H
   go_enter Try.func24, Try.ntmps24
   go_wp2_with (first | ((with_reducible refine gate_dst (N := 3) rfl ?_); refine xbox 3 (cs := #[.int .i64 a0_0, .bool a0_1, .bool a0_2, .slice A0_3 l0_3.length c0_3]) (t := 25) ?_; intro gb190 hg w14 hbox hb; have n0_ := am (below_step (xh HB) hb); have n1_ := am (hbox); have n2_ := am (xs hg HB); have n3_ := am (xs hg HB); clear HB; have HB := n0_; have BK190 := n1_; have GW190 := n2_; have GE190 := n3_; clear n0_ n1_ n2_ n3_; clear hb hbox hg) | ((with_reducible refine gate_dst (N := 6) rfl ?_); refine xbox 6 (cs := #[.int .i64 0, .int .i64 0]) (t := 34) ?_; intro gb191 hg w15 hbox hb; have n0_ := am (xw BK190 hb); have n1_ := am (below_step (xh HB) hb); have n2_ := am (hbox); have n3_ := am (xs hg HB); have n4_ := am (xs hg HB); have n5_ := am (xnl hg BK190); have n6_ := am (xng hg BK190); clear BK190; clear HB; have BK190 := n0_; have HB := n1_; have BK191 := n2_; have GW191 := n3_; have GE191 := n4_; have NB190_191 := n5_; have NB191_190 := n6_; clear n0_ n1_ n2_ n3_ n4_ n5_ n6_; clear hb hbox hg; have hnb16 := NB190_191.out; have hnc16 := NB191_190.out; have hcz17_0 : w15.cell? ⟨gb190, 0, none⟩ = some (.int .i64 a0_0) := (blk_cell BK190.out 0).trans rfl; have hcz17_1 : w15.cell? ⟨gb190, 1, none⟩ = some (.bool a0_1) := (blk_cell BK190.out 1).trans rfl; have hcz17_2 : w15.cell? ⟨gb190, 2, none⟩ = some (.bool a0_2) := (blk_cell BK190.out 2).trans rfl; have hcz17_3 : w15.cell? ⟨gb190, 3, none⟩ = some (.slice A0_3 l0_3.length c0_3) := (blk_cell BK190.out 3).trans rfl; have hfz17_0 := blk_frozen BK190.out 0; have hfz17_1 := blk_frozen BK190.out 1; have hfz17_2 := blk_frozen BK190.out 2; have hfz17_3 := blk_frozen BK190.out 3) | ((with_reducible refine gate_callee (f := 30) rfl ?_); refine goesL_ (some 24) rfl rfl Try.func30 (by kernel_rfl) rfl #[.agg #[.int .i64 a0_0, .bool a0_1, .bool a0_2, .slice A0_3 l0_3.length c0_3], .bool (!a0_1), .int .i64 a2] rfl xv ?_; (with_reducible refine (fan_along.calls k a0_0 a0_1 a0_2 _ _ l0_3 (!a0_1) a2 t194 t195 _ ?side1 ?side2 A13.out).mono ?_); (case side1 => exact xc2 (Kd.C_below HR0_3.out HB.out)); (case side2 => exact HC0_3.out); rintro e w18 ⟨rfl, hb⟩; refine ⟨_, rfl, ?_⟩; have n0_ := am (xw BK190 hb); have n1_ := am (xw BK191 hb); have n2_ := am (below_step (xh HB) hb); clear BK190; clear BK191; clear HB; have BK190 := n0_; have BK191 := n1_; have HB := n2_; clear n0_ n1_ n2_; (try clear hb); (try clear hb2); (try clear hk); (try clear hi); have hcz19_0 : w18.cell? ⟨gb191, 0, none⟩ = some (.int .i64 0) := (blk_cell BK191.out 0).trans rfl; have hcz19_1 : w18.cell? ⟨gb191, 1, none⟩ = some (.int .i64 0) := (blk_cell BK191.out 1).trans rfl; have hfz19_0 := blk_frozen BK191.out 0; have hfz19_1 := blk_frozen BK191.out 1))
   refine bodyPost_ret (results_cell_row rfl _ _ gb191 34 #[.int .i64 t194, .int .i64 t195] (0, 0) _ rfl (by (with_reducible repeat (first | refine blk_drewN ?_ _ | refine blk_drew ?_ | refine blk_alloc ?_ _)); refine blk_put (cs := #[.int .i64 t194, .int .i64 0]) ?_ 1 _ rfl; (with_reducible repeat (first | refine blk_drewN ?_ _ | refine blk_drew ?_ | refine blk_alloc ?_ _)); refine blk_put (cs := #[.int .i64 0, .int .i64 0]) ?_ 0 _ rfl; (with_reducible repeat (first | refine blk_drewN ?_ _ | refine blk_drew ?_ | refine blk_alloc ?_ _)); exact BK191.out) Try.underlying34 rfl (by kernel_rfl)) rfl ?_
   exact ⟨by first | rfl | (simp [errW_none, errW_some] <;> rfl) | (simp [*, errW_none, errW_some] <;> rfl), xh HB⟩
  ·
   rw [if_neg c12] at H
   have c12b0 : (a1 == 2) = false := beq_eq_false_iff_ne.mpr c12
   have c12b1 : (a1 != 2) = true := bne_iff_ne.mpr c12
   by_cases c20 : a1 = (-1)
   ·
    rw [if_pos c20] at H
    have c20b0 : (a1 == (-1)) = true := beq_iff_eq.mpr c20
    have c20b1 : (a1 != (-1)) = false := bne_eq_false_iff_eq.mpr c20
    clear c20
    replace H := Option.bind_eq_some_iff.mp H
    obtain ⟨⟨t196, t197⟩, A210, H⟩ := H
    replace H : ((fan_along.f k a0_0 a0_1 a0_2 l0_3 true a2).bind fun bt198 => (some (mn (mn 0 t196) bt198.1, mx (mx 0 t197) bt198.2))) = some (r1, r2) := H
    have A21 := am A210
    clear A210
    replace H := Option.bind_eq_some_iff.mp H
    obtain ⟨⟨t198, t199⟩, A220, H⟩ := H
    replace H : (some (mn (mn 0 t196) t198, mx (mx 0 t197) t199)) = some (r1, r2) := H
    have A22 := am A220
    clear A220
    obtain ⟨ji23, hji23⟩ : ∃ j_ : Int, (mn 0 t196) = j_ := ⟨_, rfl⟩
    replace H : (some (mn (ji23) t198, mx (mx 0 t197) t199)) = some (r1, r2) := by first | (rw [hji23] at H; exact H) | (simp only [hji23] at H ⊢; exact H)
    (try rw [hji23] at A21)
    (try rw [hji23] at A22)
    (try (have hji23h : ji23 ≤ 0 := by (rw [← hji23]; unfold mn; (repeat' split) <;> omega)))
    (try (have hji23g : ji23 ≤ 64 := by omega))
    have hji23_ : (if t196 < 0 then t196 else 0) = ji23 := hji23
    obtain ⟨ji24, hji24⟩ : ∃ j_ : Int, (mn (ji23) t198) = j_ := ⟨_, rfl⟩
    replace H : (some (ji24, mx (mx 0 t197) t199)) = some (r1, r2) := by first | (rw [hji24] at H; exact H) | (simp only [hji24] at H ⊢; exact H)
    (try rw [hji24] at A21)
    (try rw [hji24] at A22)
    have hji24_ : (if t198 < (ji23) then t198 else (ji23)) = ji24 := hji24
    obtain ⟨ji25, hji25⟩ : ∃ j_ : Int, (mx 0 t197) = j_ := ⟨_, rfl⟩
    replace H : (some (ji24, mx (ji25) t199)) = some (r1, r2) := by first | (rw [hji25] at H; exact H) | (simp only [hji25] at H ⊢; exact H)
    (try rw [hji25] at A21)
    (try rw [hji25] at A22)
    (try (have hji25l : 0 ≤ ji25 := by (rw [← hji25]; unfold mx; (repeat' split) <;> omega)))
    (try (have hji25m : 0 ≤ ji25 := by omega))
    have hji25_ : (if 0 < t197 then t197 else 0) = ji25 := hji25
    obtain ⟨ji26, hji26⟩ : ∃ j_ : Int, (mx (ji25) t199) = j_ := ⟨_, rfl⟩
    replace H : (some (ji24, ji26)) = some (r1, r2) := by first | (rw [hji26] at H; exact H) | (simp only [hji26] at H ⊢; exact H)
    (try rw [hji26] at A21)
    (try rw [hji26] at A22)
    have hji26_ : (if (ji25) < t199 then t199 else (ji25)) = ji26 := hji26
    simp only [Option.some.injEq, Prod.mk.injEq] at H
    obtain ⟨rfl, rfl⟩ := H
    go_enter Try.func24, Try.ntmps24
    try go_wp2_with (first | ((with_reducible refine gate_dst (N := 3) rfl ?_); refine xbox 3 (cs := #[.int .i64 a0_0, .bool a0_1, .bool a0_2, .slice A0_3 l0_3.length c0_3]) (t := 25) ?_; intro gb190 hg w27 hbox hb; have n0_ := am (below_step (xh HB) hb); have n1_ := am (hbox); have n2_ := am (xs hg HB); have n3_ := am (xs hg HB); clear HB; have HB := n0_; have BK190 := n1_; have GW190 := n2_; have GE190 := n3_; clear n0_ n1_ n2_ n3_; clear hb hbox hg) | ((with_reducible refine gate_dst (N := 6) rfl ?_); refine xbox 6 (cs := #[.int .i64 0, .int .i64 0]) (t := 34) ?_; intro gb191 hg w28 hbox hb; have n0_ := am (xw BK190 hb); have n1_ := am (below_step (xh HB) hb); have n2_ := am (hbox); have n3_ := am (xs hg HB); have n4_ := am (xs hg HB); have n5_ := am (xnl hg BK190); have n6_ := am (xng hg BK190); clear BK190; clear HB; have BK190 := n0_; have HB := n1_; have BK191 := n2_; have GW191 := n3_; have GE191 := n4_; have NB190_191 := n5_; have NB191_190 := n6_; clear n0_ n1_ n2_ n3_ n4_ n5_ n6_; clear hb hbox hg))
    have n0_ := am (blk_drew BK190.out)
    have n1_ := am (blk_drew BK191.out)
    have n2_ := am (below_drew1 HB.out)
    clear BK190
    clear BK191
    clear HB
    have BK190 := n0_
    have BK191 := n1_
    have HB := n2_
    clear n0_ n1_ n2_
    refine start_ (n := 10) (S := fun w' => w'.cell? ⟨gb190, 0, none⟩ = some (.int .i64 a0_0) ∧ w'.cell? ⟨gb190, 1, none⟩ = some (.bool a0_1) ∧ w'.cell? ⟨gb190, 2, none⟩ = some (.bool a0_2) ∧ w'.cell? ⟨gb190, 3, none⟩ = some (.slice A0_3 l0_3.length c0_3)) (ds := []) #[false, false, false, false, false, false, false, false, false, false] (by kernel_rfl) rfl rfl ⟨(blk_cell BK190.out 0).trans rfl, (blk_cell BK190.out 1).trans rfl, (blk_cell BK190.out 2).trans rfl, (blk_cell BK190.out 3).trans rfl⟩ (fun hHeld => ?_); refine with_tabW fan_Sure.tab7 fan_Sure.bits7 (fun HT_ HW_ => ?_)
    generalize w28.drew = w29 at BK190 BK191 HB hHeld ⊢
    refine pure_ (i := 1) (N := some 28) (v := ?_) (a' := ?_) #[false, true, false, false, false, false, false, false, false, false] rfl rfl (any_of HT_.out (by kernel_rfl)) (fun _ _ _ h => h) (Or.inl ⟨by rfl, ?_⟩) ?_ ?_
    rotate_left
    ·
     intro w'
     go_simp
     with_reducible rfl
    rotate_left
    ·
     simp only [Act.put, List.setIfInBounds_toArray, List.set_cons_zero, List.set_cons_succ, i64_w, i32_w]
     rfl
    refine pure_ (i := 4) (N := some 31) (v := ?_) (a' := ?_) #[false, true, false, false, true, false, false, false, false, false] rfl rfl (any_of HT_.out (by kernel_rfl)) (fun _ _ _ h => h) (Or.inl ⟨by rfl, ?_⟩) ?_ ?_
    rotate_left
    ·
     intro w'
     go_simp
     with_reducible rfl
    rotate_left
    ·
     simp only [Act.put, List.setIfInBounds_toArray, List.set_cons_zero, List.set_cons_succ, i64_w, i32_w]
     rfl
    refine take_ (i := 0) (N := some 27) (v := ?_) (a' := ?_) #[true, true, false, false, true, false, false, false, false, false] rfl rfl (take_ofW HT_.out HW_.out (by kernel_rfl)) (fun _ _ _ h => h) (Or.inl ⟨by rfl, ?_⟩) hHeld ?_ ?_
    rotate_left
    ·
     rintro w' ⟨s0, s1, s2, s3⟩
     go_simp
     with_reducible rfl
    rotate_left
    ·
     simp only [Act.put, List.setIfInBounds_toArray, List.set_cons_zero, List.set_cons_succ, i64_w, i32_w]
     rfl
    refine take_ (i := 3) (N := some 30) (v := ?_) (a' := ?_) #[true, true, false, true, true, false, false, false, false, false] rfl rfl (take_ofW HT_.out HW_.out (by kernel_rfl)) (fun _ _ _ h => h) (Or.inl ⟨by rfl, ?_⟩) hHeld ?_ ?_
    rotate_left
    ·
     rintro w' ⟨s0, s1, s2, s3⟩
     go_simp
     with_reducible rfl
    rotate_left
    ·
     simp only [Act.put, List.setIfInBounds_toArray, List.set_cons_zero, List.set_cons_succ, i64_w, i32_w]
     rfl
    refine join_ (σ := Nat × Nat) 2 #[true, true, true, true, true, true, true, true, false, false] (fun s_ => [(29, .agg #[.int .i64 t196, .int .i64 t197]), (32, .agg #[.int .i64 t198, .int .i64 t199]), (7, .pointer (some ⟨s_.1, 0, none⟩)), (8, .pointer (some ⟨s_.2, 0, none⟩))]) (fun s_ w' => (w'.cell? ⟨gb190, 0, none⟩ = some (.int .i64 a0_0) ∧ w'.cell? ⟨gb190, 1, none⟩ = some (.bool a0_1) ∧ w'.cell? ⟨gb190, 2, none⟩ = some (.bool a0_2) ∧ w'.cell? ⟨gb190, 3, none⟩ = some (.slice A0_3 l0_3.length c0_3)) ∧ (w'.heap[gb190]? = some (.cells #[.int .i64 a0_0, .bool a0_1, .bool a0_2, .slice A0_3 l0_3.length c0_3] 25 (0, 0))) ∧ (w'.heap[gb191]? = some (.cells #[.int .i64 0, .int .i64 0] 34 (0, 0))) ∧ (w'.heap[s_.1]? = some (.cells #[.int .i64 0, .int .i64 0] 34 (0, 0))) ∧ (w'.heap[s_.2]? = some (.cells #[.int .i64 0, .int .i64 0] 34 (0, 0))) ∧ (w.heap.size ≤ s_.1) ∧ (w.heap.size ≤ s_.1) ∧ (gb190 ≠ s_.1) ∧ (s_.1 ≠ gb190) ∧ (gb191 ≠ s_.1) ∧ (s_.1 ≠ gb191) ∧ (s_.2 ≠ s_.1) ∧ (s_.1 ≠ s_.2) ∧ (w.heap.size ≤ s_.2) ∧ (w.heap.size ≤ s_.2) ∧ (gb190 ≠ s_.2) ∧ (s_.2 ≠ gb190) ∧ (gb191 ≠ s_.2) ∧ (s_.2 ≠ gb191) ∧ (Below w.heap.size w w')) ?_ ?_
    rotate_left
    ·
     intro hJ2_5_6_7
     refine join_ (σ := Nat) 3 #[true, true, true, true, true, true, true, false, false, false] (fun s_ => [(29, .agg #[.int .i64 t196, .int .i64 t197]), (32, .agg #[.int .i64 t198, .int .i64 t199]), (7, .pointer (some ⟨s_, 0, none⟩))]) (fun s_ w' => (w'.cell? ⟨gb190, 0, none⟩ = some (.int .i64 a0_0) ∧ w'.cell? ⟨gb190, 1, none⟩ = some (.bool a0_1) ∧ w'.cell? ⟨gb190, 2, none⟩ = some (.bool a0_2) ∧ w'.cell? ⟨gb190, 3, none⟩ = some (.slice A0_3 l0_3.length c0_3)) ∧ (w'.heap[gb190]? = some (.cells #[.int .i64 a0_0, .bool a0_1, .bool a0_2, .slice A0_3 l0_3.length c0_3] 25 (0, 0))) ∧ (w'.heap[gb191]? = some (.cells #[.int .i64 0, .int .i64 0] 34 (0, 0))) ∧ (w'.heap[s_]? = some (.cells #[.int .i64 0, .int .i64 0] 34 (0, 0))) ∧ (w.heap.size ≤ s_) ∧ (w.heap.size ≤ s_) ∧ (gb190 ≠ s_) ∧ (s_ ≠ gb190) ∧ (gb191 ≠ s_) ∧ (s_ ≠ gb191) ∧ (Below w.heap.size w w')) ?_ ?_
     rotate_left
     ·
      intro hJ2_5_6
      refine join_ (σ := Nat) 3 #[true, true, true, true, true, true, false, true, false, false] (fun s_ => [(29, .agg #[.int .i64 t196, .int .i64 t197]), (32, .agg #[.int .i64 t198, .int .i64 t199]), (8, .pointer (some ⟨s_, 0, none⟩))]) (fun s_ w' => (w'.cell? ⟨gb190, 0, none⟩ = some (.int .i64 a0_0) ∧ w'.cell? ⟨gb190, 1, none⟩ = some (.bool a0_1) ∧ w'.cell? ⟨gb190, 2, none⟩ = some (.bool a0_2) ∧ w'.cell? ⟨gb190, 3, none⟩ = some (.slice A0_3 l0_3.length c0_3)) ∧ (w'.heap[gb190]? = some (.cells #[.int .i64 a0_0, .bool a0_1, .bool a0_2, .slice A0_3 l0_3.length c0_3] 25 (0, 0))) ∧ (w'.heap[gb191]? = some (.cells #[.int .i64 0, .int .i64 0] 34 (0, 0))) ∧ (w'.heap[s_]? = some (.cells #[.int .i64 0, .int .i64 0] 34 (0, 0))) ∧ (w.heap.size ≤ s_) ∧ (w.heap.size ≤ s_) ∧ (gb190 ≠ s_) ∧ (s_ ≠ gb190) ∧ (gb191 ≠ s_) ∧ (s_ ≠ gb191) ∧ (Below w.heap.size w w')) ?_ ?_
      rotate_left
      ·
       intro hJ2_5_7
       refine join_ (σ := Nat × Nat) 3 #[true, true, true, true, true, false, true, true, false, false] (fun s_ => [(29, .agg #[.int .i64 t196, .int .i64 t197]), (7, .pointer (some ⟨s_.1, 0, none⟩)), (8, .pointer (some ⟨s_.2, 0, none⟩))]) (fun s_ w' => (w'.cell? ⟨gb190, 0, none⟩ = some (.int .i64 a0_0) ∧ w'.cell? ⟨gb190, 1, none⟩ = some (.bool a0_1) ∧ w'.cell? ⟨gb190, 2, none⟩ = some (.bool a0_2) ∧ w'.cell? ⟨gb190, 3, none⟩ = some (.slice A0_3 l0_3.length c0_3)) ∧ (w'.heap[gb190]? = some (.cells #[.int .i64 a0_0, .bool a0_1, .bool a0_2, .slice A0_3 l0_3.length c0_3] 25 (0, 0))) ∧ (w'.heap[gb191]? = some (.cells #[.int .i64 0, .int .i64 0] 34 (0, 0))) ∧ (w'.heap[s_.1]? = some (.cells #[.int .i64 0, .int .i64 0] 34 (0, 0))) ∧ (w'.heap[s_.2]? = some (.cells #[.int .i64 0, .int .i64 0] 34 (0, 0))) ∧ (w.heap.size ≤ s_.1) ∧ (w.heap.size ≤ s_.1) ∧ (gb190 ≠ s_.1) ∧ (s_.1 ≠ gb190) ∧ (gb191 ≠ s_.1) ∧ (s_.1 ≠ gb191) ∧ (s_.2 ≠ s_.1) ∧ (s_.1 ≠ s_.2) ∧ (w.heap.size ≤ s_.2) ∧ (w.heap.size ≤ s_.2) ∧ (gb190 ≠ s_.2) ∧ (s_.2 ≠ gb190) ∧ (gb191 ≠ s_.2) ∧ (s_.2 ≠ gb191) ∧ (Below w.heap.size w w')) ?_ ?_
       rotate_left
       ·
        intro hJ2_6_7
        refine join_ (σ := Unit) 4 #[true, true, true, true, true, true, false, false, false, false] (fun s_ => [(29, .agg #[.int .i64 t196, .int .i64 t197]), (32, .agg #[.int .i64 t198, .int .i64 t199])]) (fun s_ w' => (w'.cell? ⟨gb190, 0, none⟩ = some (.int .i64 a0_0) ∧ w'.cell? ⟨gb190, 1, none⟩ = some (.bool a0_1) ∧ w'.cell? ⟨gb190, 2, none⟩ = some (.bool a0_2) ∧ w'.cell? ⟨gb190, 3, none⟩ = some (.slice A0_3 l0_3.length c0_3)) ∧ (w'.heap[gb190]? = some (.cells #[.int .i64 a0_0, .bool a0_1, .bool a0_2, .slice A0_3 l0_3.length c0_3] 25 (0, 0))) ∧ (w'.heap[gb191]? = some (.cells #[.int .i64 0, .int .i64 0] 34 (0, 0))) ∧ (Below w.heap.size w w')) ?_ ?_
        rotate_left
        ·
         intro hJ2_5
         refine join_ (σ := Nat) 4 #[true, true, true, true, true, false, true, false, false, false] (fun s_ => [(29, .agg #[.int .i64 t196, .int .i64 t197]), (7, .pointer (some ⟨s_, 0, none⟩))]) (fun s_ w' => (w'.cell? ⟨gb190, 0, none⟩ = some (.int .i64 a0_0) ∧ w'.cell? ⟨gb190, 1, none⟩ = some (.bool a0_1) ∧ w'.cell? ⟨gb190, 2, none⟩ = some (.bool a0_2) ∧ w'.cell? ⟨gb190, 3, none⟩ = some (.slice A0_3 l0_3.length c0_3)) ∧ (w'.heap[gb190]? = some (.cells #[.int .i64 a0_0, .bool a0_1, .bool a0_2, .slice A0_3 l0_3.length c0_3] 25 (0, 0))) ∧ (w'.heap[gb191]? = some (.cells #[.int .i64 0, .int .i64 0] 34 (0, 0))) ∧ (w'.heap[s_]? = some (.cells #[.int .i64 0, .int .i64 0] 34 (0, 0))) ∧ (w.heap.size ≤ s_) ∧ (w.heap.size ≤ s_) ∧ (gb190 ≠ s_) ∧ (s_ ≠ gb190) ∧ (gb191 ≠ s_) ∧ (s_ ≠ gb191) ∧ (Below w.heap.size w w')) ?_ ?_
         rotate_left
         ·
          intro hJ2_6
          refine join_ (σ := Nat) 4 #[true, true, true, true, true, false, false, true, false, false] (fun s_ => [(29, .agg #[.int .i64 t196, .int .i64 t197]), (8, .pointer (some ⟨s_, 0, none⟩))]) (fun s_ w' => (w'.cell? ⟨gb190, 0, none⟩ = some (.int .i64 a0_0) ∧ w'.cell? ⟨gb190, 1, none⟩ = some (.bool a0_1) ∧ w'.cell? ⟨gb190, 2, none⟩ = some (.bool a0_2) ∧ w'.cell? ⟨gb190, 3, none⟩ = some (.slice A0_3 l0_3.length c0_3)) ∧ (w'.heap[gb190]? = some (.cells #[.int .i64 a0_0, .bool a0_1, .bool a0_2, .slice A0_3 l0_3.length c0_3] 25 (0, 0))) ∧ (w'.heap[gb191]? = some (.cells #[.int .i64 0, .int .i64 0] 34 (0, 0))) ∧ (w'.heap[s_]? = some (.cells #[.int .i64 0, .int .i64 0] 34 (0, 0))) ∧ (w.heap.size ≤ s_) ∧ (w.heap.size ≤ s_) ∧ (gb190 ≠ s_) ∧ (s_ ≠ gb190) ∧ (gb191 ≠ s_) ∧ (s_ ≠ gb191) ∧ (Below w.heap.size w w')) ?_ ?_
          rotate_left
          ·
           intro hJ2_7
           refine join_ (σ := Nat × Nat) 4 #[true, true, false, true, true, false, true, true, false, false] (fun s_ => [(7, .pointer (some ⟨s_.1, 0, none⟩)), (8, .pointer (some ⟨s_.2, 0, none⟩))]) (fun s_ w' => (w'.cell? ⟨gb190, 0, none⟩ = some (.int .i64 a0_0) ∧ w'.cell? ⟨gb190, 1, none⟩ = some (.bool a0_1) ∧ w'.cell? ⟨gb190, 2, none⟩ = some (.bool a0_2) ∧ w'.cell? ⟨gb190, 3, none⟩ = some (.slice A0_3 l0_3.length c0_3)) ∧ (w'.heap[gb190]? = some (.cells #[.int .i64 a0_0, .bool a0_1, .bool a0_2, .slice A0_3 l0_3.length c0_3] 25 (0, 0))) ∧ (w'.heap[gb191]? = some (.cells #[.int .i64 0, .int .i64 0] 34 (0, 0))) ∧ (w'.heap[s_.1]? = some (.cells #[.int .i64 0, .int .i64 0] 34 (0, 0))) ∧ (w'.heap[s_.2]? = some (.cells #[.int .i64 0, .int .i64 0] 34 (0, 0))) ∧ (w.heap.size ≤ s_.1) ∧ (w.heap.size ≤ s_.1) ∧ (gb190 ≠ s_.1) ∧ (s_.1 ≠ gb190) ∧ (gb191 ≠ s_.1) ∧ (s_.1 ≠ gb191) ∧ (s_.2 ≠ s_.1) ∧ (s_.1 ≠ s_.2) ∧ (w.heap.size ≤ s_.2) ∧ (w.heap.size ≤ s_.2) ∧ (gb190 ≠ s_.2) ∧ (s_.2 ≠ gb190) ∧ (gb191 ≠ s_.2) ∧ (s_.2 ≠ gb191) ∧ (Below w.heap.size w w')) ?_ ?_
           rotate_left
           ·
            intro hJ6_7
            refine join_ (σ := Unit) 5 #[true, true, true, true, true, false, false, false, false, false] (fun s_ => [(29, .agg #[.int .i64 t196, .int .i64 t197])]) (fun s_ w' => (w'.cell? ⟨gb190, 0, none⟩ = some (.int .i64 a0_0) ∧ w'.cell? ⟨gb190, 1, none⟩ = some (.bool a0_1) ∧ w'.cell? ⟨gb190, 2, none⟩ = some (.bool a0_2) ∧ w'.cell? ⟨gb190, 3, none⟩ = some (.slice A0_3 l0_3.length c0_3)) ∧ (w'.heap[gb190]? = some (.cells #[.int .i64 a0_0, .bool a0_1, .bool a0_2, .slice A0_3 l0_3.length c0_3] 25 (0, 0))) ∧ (w'.heap[gb191]? = some (.cells #[.int .i64 0, .int .i64 0] 34 (0, 0))) ∧ (Below w.heap.size w w')) ?_ ?_
            rotate_left
            ·
             intro hJ2
             refine join_ (σ := Nat) 5 #[true, true, false, true, true, false, true, false, false, false] (fun s_ => [(7, .pointer (some ⟨s_, 0, none⟩))]) (fun s_ w' => (w'.cell? ⟨gb190, 0, none⟩ = some (.int .i64 a0_0) ∧ w'.cell? ⟨gb190, 1, none⟩ = some (.bool a0_1) ∧ w'.cell? ⟨gb190, 2, none⟩ = some (.bool a0_2) ∧ w'.cell? ⟨gb190, 3, none⟩ = some (.slice A0_3 l0_3.length c0_3)) ∧ (w'.heap[gb190]? = some (.cells #[.int .i64 a0_0, .bool a0_1, .bool a0_2, .slice A0_3 l0_3.length c0_3] 25 (0, 0))) ∧ (w'.heap[gb191]? = some (.cells #[.int .i64 0, .int .i64 0] 34 (0, 0))) ∧ (w'.heap[s_]? = some (.cells #[.int .i64 0, .int .i64 0] 34 (0, 0))) ∧ (w.heap.size ≤ s_) ∧ (w.heap.size ≤ s_) ∧ (gb190 ≠ s_) ∧ (s_ ≠ gb190) ∧ (gb191 ≠ s_) ∧ (s_ ≠ gb191) ∧ (Below w.heap.size w w')) ?_ ?_
             rotate_left
             ·
              intro hJ6
              refine join_ (σ := Nat) 5 #[true, true, false, true, true, false, false, true, false, false] (fun s_ => [(8, .pointer (some ⟨s_, 0, none⟩))]) (fun s_ w' => (w'.cell? ⟨gb190, 0, none⟩ = some (.int .i64 a0_0) ∧ w'.cell? ⟨gb190, 1, none⟩ = some (.bool a0_1) ∧ w'.cell? ⟨gb190, 2, none⟩ = some (.bool a0_2) ∧ w'.cell? ⟨gb190, 3, none⟩ = some (.slice A0_3 l0_3.length c0_3)) ∧ (w'.heap[gb190]? = some (.cells #[.int .i64 a0_0, .bool a0_1, .bool a0_2, .slice A0_3 l0_3.length c0_3] 25 (0, 0))) ∧ (w'.heap[gb191]? = some (.cells #[.int .i64 0, .int .i64 0] 34 (0, 0))) ∧ (w'.heap[s_]? = some (.cells #[.int .i64 0, .int .i64 0] 34 (0, 0))) ∧ (w.heap.size ≤ s_) ∧ (w.heap.size ≤ s_) ∧ (gb190 ≠ s_) ∧ (s_ ≠ gb190) ∧ (gb191 ≠ s_) ∧ (s_ ≠ gb191) ∧ (Below w.heap.size w w')) ?_ ?_
              rotate_left
              ·
               intro hJ7
               refine three_ (i := 2) (j := 6) (k := 7) (Ni := some 29) (Nj := some 7) (Nk := some 8) #[true, true, true, true, true, false, false, false, false, false] #[true, true, false, true, true, false, true, false, false, false] #[true, true, false, true, true, false, false, true, false, false] rfl rfl rfl rfl rfl rfl (three_of HT_.out (by kernel_rfl)) (by decide) (by decide) (by decide) (fun K hK => ?_) (fun K hK => ?_) (fun K hK => ?_)
               ·
                skip
                refine goes_ Try.func30 (by kernel_rfl) rfl #[.agg #[.int .i64 a0_0, .bool a0_1, .bool a0_2, .slice A0_3 l0_3.length c0_3], .bool false, .int .i64 a2] (by rfl) rfl rfl xv ?_
                with_reducible refine (fan_along.calls k a0_0 a0_1 a0_2 _ _ l0_3 false a2 t196 t197 _ ?side1 ?side2 A21.out).mono ?_
                (case side1 => exact xc2 (Kd.C_below HR0_3.out HB.out))
                (case side2 => exact HC0_3.out)
                rintro e w30 ⟨rfl, hb⟩
                refine ⟨_, rfl, ?_⟩
                have n0_ := am (xw BK190 hb)
                have n1_ := am (xw BK191 hb)
                have n2_ := am (below_step (xh HB) hb)
                clear BK190
                clear BK191
                clear HB
                have BK190 := n0_
                have BK191 := n1_
                have HB := n2_
                clear n0_ n1_ n2_
                (try clear hb)
                (try clear hb2)
                (try clear hk)
                (try clear hi)
                refine hK.out _ _ ⟨(blk_cell BK190.out 0).trans rfl, (blk_cell BK190.out 1).trans rfl, (blk_cell BK190.out 2).trans rfl, (blk_cell BK190.out 3).trans rfl⟩ (fun hHeld => ?_)
                clear hK K
                refine norm_ (a' := ?_) ?_ ?_
                rotate_left
                ·
                 show Act.put _ (some 29) _ = _
                 simp only [Act.put, List.setIfInBounds_toArray, List.set_cons_zero, List.set_cons_succ, i64_w, i32_w]
                 rfl
                exact xn (hJ2 () _ ⟨hHeld, (xb BK190), (xb BK191), (xh HB)⟩)
               ·
                skip
                refine box_step ?hg (N := 7) ?hd (cs := #[.int .i64 0, .int .i64 0]) (t := 34) ?hr ?_; (case hd => rfl); (case hg => rfl); (case hr => first | (go_simp; done) | (go_simp; rfl))
                intro gb200 hg w30 hbox hb
                have n0_ := am (xw BK190 hb)
                have n1_ := am (xw BK191 hb)
                have n2_ := am (below_step (xh HB) hb)
                have n3_ := am (hbox)
                have n4_ := am (xs hg HB)
                have n5_ := am (xs hg HB)
                have n6_ := am (xnl hg BK190)
                have n7_ := am (xng hg BK190)
                have n8_ := am (xnl hg BK191)
                have n9_ := am (xng hg BK191)
                clear BK190
                clear BK191
                clear HB
                have BK190 := n0_
                have BK191 := n1_
                have HB := n2_
                have BK200 := n3_
                have GW200 := n4_
                have GE200 := n5_
                have NB190_200 := n6_
                have NB200_190 := n7_
                have NB191_200 := n8_
                have NB200_191 := n9_
                clear n0_ n1_ n2_ n3_ n4_ n5_ n6_ n7_ n8_ n9_
                clear hb hbox hg
                refine hK.out _ _ ⟨(blk_cell BK190.out 0).trans rfl, (blk_cell BK190.out 1).trans rfl, (blk_cell BK190.out 2).trans rfl, (blk_cell BK190.out 3).trans rfl⟩ (fun hHeld => ?_)
                clear hK K
                refine norm_ (a' := ?_) ?_ ?_
                rotate_left
                ·
                 show Act.put _ (some 7) _ = _
                 simp only [Act.put, List.setIfInBounds_toArray, List.set_cons_zero, List.set_cons_succ, i64_w, i32_w]
                 rfl
                exact xn (hJ6 (gb200) _ ⟨hHeld, (xb BK190), (xb BK191), (xb BK200), GW200.out, GE200.out, NB190_200.out, NB200_190.out, NB191_200.out, NB200_191.out, (xh HB)⟩)
               ·
                skip
                refine box_step ?hg (N := 8) ?hd (cs := #[.int .i64 0, .int .i64 0]) (t := 34) ?hr ?_; (case hd => rfl); (case hg => rfl); (case hr => first | (go_simp; done) | (go_simp; rfl))
                intro gb201 hg w30 hbox hb
                have n0_ := am (xw BK190 hb)
                have n1_ := am (xw BK191 hb)
                have n2_ := am (below_step (xh HB) hb)
                have n3_ := am (hbox)
                have n4_ := am (xs hg HB)
                have n5_ := am (xs hg HB)
                have n6_ := am (xnl hg BK190)
                have n7_ := am (xng hg BK190)
                have n8_ := am (xnl hg BK191)
                have n9_ := am (xng hg BK191)
                clear BK190
                clear BK191
                clear HB
                have BK190 := n0_
                have BK191 := n1_
                have HB := n2_
                have BK201 := n3_
                have GW201 := n4_
                have GE201 := n5_
                have NB190_201 := n6_
                have NB201_190 := n7_
                have NB191_201 := n8_
                have NB201_191 := n9_
                clear n0_ n1_ n2_ n3_ n4_ n5_ n6_ n7_ n8_ n9_
                clear hb hbox hg
                refine hK.out _ _ ⟨(blk_cell BK190.out 0).trans rfl, (blk_cell BK190.out 1).trans rfl, (blk_cell BK190.out 2).trans rfl, (blk_cell BK190.out 3).trans rfl⟩ (fun hHeld => ?_)
                clear hK K
                refine norm_ (a' := ?_) ?_ ?_
                rotate_left
                ·
                 show Act.put _ (some 8) _ = _
                 simp only [Act.put, List.setIfInBounds_toArray, List.set_cons_zero, List.set_cons_succ, i64_w, i32_w]
                 rfl
                exact xn (hJ7 (gb201) _ ⟨hHeld, (xb BK190), (xb BK191), (xb BK201), GW201.out, GE201.out, NB190_201.out, NB201_190.out, NB191_201.out, NB201_191.out, (xh HB)⟩)
              ·
               skip
               rintro gb201 w31 ⟨hS_, h0_, h1_, h2_, h3_, h4_, h5_, h6_, h7_, h8_, h9_⟩
               have n0_ : Aside0 (w31.heap[gb190]? = some (.cells #[.int .i64 a0_0, .bool a0_1, .bool a0_2, .slice A0_3 l0_3.length c0_3] 25 (0, 0))) := ⟨h0_⟩
               have n1_ : Aside0 (w31.heap[gb191]? = some (.cells #[.int .i64 0, .int .i64 0] 34 (0, 0))) := ⟨h1_⟩
               have n2_ : Aside0 (w31.heap[gb201]? = some (.cells #[.int .i64 0, .int .i64 0] 34 (0, 0))) := ⟨h2_⟩
               have n3_ : Aside0 (w.heap.size ≤ gb201) := ⟨h3_⟩
               have n4_ : Aside0 (w.heap.size ≤ gb201) := ⟨h4_⟩
               have n5_ : Aside0 (gb190 ≠ gb201) := ⟨h5_⟩
               have n6_ : Aside0 (gb201 ≠ gb190) := ⟨h6_⟩
               have n7_ : Aside0 (gb191 ≠ gb201) := ⟨h7_⟩
               have n8_ : Aside0 (gb201 ≠ gb191) := ⟨h8_⟩
               have n9_ : Aside0 (Below w.heap.size w w31) := ⟨h9_⟩
               clear BK190
               clear BK191
               clear HB
               clear h0_ h1_ h2_ h3_ h4_ h5_ h6_ h7_ h8_ h9_
               have BK190 := n0_
               have BK191 := n1_
               have BK201 := n2_
               have GW201 := n3_
               have GE201 := n4_
               have NB190_201 := n5_
               have NB201_190 := n6_
               have NB191_201 := n7_
               have NB201_191 := n8_
               have HB := n9_
               clear n0_ n1_ n2_ n3_ n4_ n5_ n6_ n7_ n8_ n9_
               have hHeld : w31.cell? ⟨gb190, 0, none⟩ = some (.int .i64 a0_0) ∧ w31.cell? ⟨gb190, 1, none⟩ = some (.bool a0_1) ∧ w31.cell? ⟨gb190, 2, none⟩ = some (.bool a0_2) ∧ w31.cell? ⟨gb190, 3, none⟩ = some (.slice A0_3 l0_3.length c0_3) := hS_
               refine norm_ (a' := ?_) ?_ ?_
               rotate_left
               ·
                simp only [putAll, Act.put, List.setIfInBounds_toArray, List.set_cons_zero, List.set_cons_succ]
                rfl
               refine two_ (i := 2) (j := 6) (Ni := some 29) (Nj := some 7) #[true, true, true, true, true, false, false, true, false, false] #[true, true, false, true, true, false, true, true, false, false] rfl rfl rfl rfl (two_of HT_.out (by kernel_rfl)) (by decide) (by decide) (fun K hK => ?_) (fun K hK => ?_)
               ·
                skip
                refine goes_ Try.func30 (by kernel_rfl) rfl #[.agg #[.int .i64 a0_0, .bool a0_1, .bool a0_2, .slice A0_3 l0_3.length c0_3], .bool false, .int .i64 a2] (by rfl) rfl rfl xv ?_
                with_reducible refine (fan_along.calls k a0_0 a0_1 a0_2 _ _ l0_3 false a2 t196 t197 _ ?side1 ?side2 A21.out).mono ?_
                (case side1 => exact xc2 (Kd.C_below HR0_3.out HB.out))
                (case side2 => exact HC0_3.out)
                rintro e w32 ⟨rfl, hb⟩
                refine ⟨_, rfl, ?_⟩
                have n0_ := am (xw BK190 hb)
                have n1_ := am (xw BK191 hb)
                have n2_ := am (xw BK201 hb)
                have n3_ := am (below_step (xh HB) hb)
                clear BK190
                clear BK191
                clear BK201
                clear HB
                have BK190 := n0_
                have BK191 := n1_
                have BK201 := n2_
                have HB := n3_
                clear n0_ n1_ n2_ n3_
                (try clear hb)
                (try clear hb2)
                (try clear hk)
                (try clear hi)
                refine hK.out _ _ ⟨(blk_cell BK190.out 0).trans rfl, (blk_cell BK190.out 1).trans rfl, (blk_cell BK190.out 2).trans rfl, (blk_cell BK190.out 3).trans rfl⟩ (fun hHeld => ?_)
                clear hK K
                refine norm_ (a' := ?_) ?_ ?_
                rotate_left
                ·
                 show Act.put _ (some 29) _ = _
                 simp only [Act.put, List.setIfInBounds_toArray, List.set_cons_zero, List.set_cons_succ, i64_w, i32_w]
                 rfl
                exact xn (hJ2_7 (gb201) _ ⟨hHeld, (xb BK190), (xb BK191), (xb BK201), GW201.out, GE201.out, NB190_201.out, NB201_190.out, NB191_201.out, NB201_191.out, (xh HB)⟩)
               ·
                skip
                refine box_step ?hg (N := 7) ?hd (cs := #[.int .i64 0, .int .i64 0]) (t := 34) ?hr ?_; (case hd => rfl); (case hg => rfl); (case hr => first | (go_simp; done) | (go_simp; rfl))
                intro gb200 hg w32 hbox hb
                have n0_ := am (xw BK190 hb)
                have n1_ := am (xw BK191 hb)
                have n2_ := am (xw BK201 hb)
                have n3_ := am (below_step (xh HB) hb)
                have n4_ := am (hbox)
                have n5_ := am (xs hg HB)
                have n6_ := am (xs hg HB)
                have n7_ := am (xnl hg BK190)
                have n8_ := am (xng hg BK190)
                have n9_ := am (xnl hg BK191)
                have n10_ := am (xng hg BK191)
                have n11_ := am (xnl hg BK201)
                have n12_ := am (xng hg BK201)
                clear BK190
                clear BK191
                clear BK201
                clear HB
                have BK190 := n0_
                have BK191 := n1_
                have BK201 := n2_
                have HB := n3_
                have BK200 := n4_
                have GW200 := n5_
                have GE200 := n6_
                have NB190_200 := n7_
                have NB200_190 := n8_
                have NB191_200 := n9_
                have NB200_191 := n10_
                have NB201_200 := n11_
                have NB200_201 := n12_
                clear n0_ n1_ n2_ n3_ n4_ n5_ n6_ n7_ n8_ n9_ n10_ n11_ n12_
                clear hb hbox hg
                refine hK.out _ _ ⟨(blk_cell BK190.out 0).trans rfl, (blk_cell BK190.out 1).trans rfl, (blk_cell BK190.out 2).trans rfl, (blk_cell BK190.out 3).trans rfl⟩ (fun hHeld => ?_)
                clear hK K
                refine norm_ (a' := ?_) ?_ ?_
                rotate_left
                ·
                 show Act.put _ (some 7) _ = _
                 simp only [Act.put, List.setIfInBounds_toArray, List.set_cons_zero, List.set_cons_succ, i64_w, i32_w]
                 rfl
                exact xn (hJ6_7 (gb200, gb201) _ ⟨hHeld, (xb BK190), (xb BK191), (xb BK200), (xb BK201), GW200.out, GE200.out, NB190_200.out, NB200_190.out, NB191_200.out, NB200_191.out, NB201_200.out, NB200_201.out, GW201.out, GE201.out, NB190_201.out, NB201_190.out, NB191_201.out, NB201_191.out, (xh HB)⟩)
             ·
              skip
              rintro gb200 w31 ⟨hS_, h0_, h1_, h2_, h3_, h4_, h5_, h6_, h7_, h8_, h9_⟩
              have n0_ : Aside0 (w31.heap[gb190]? = some (.cells #[.int .i64 a0_0, .bool a0_1, .bool a0_2, .slice A0_3 l0_3.length c0_3] 25 (0, 0))) := ⟨h0_⟩
              have n1_ : Aside0 (w31.heap[gb191]? = some (.cells #[.int .i64 0, .int .i64 0] 34 (0, 0))) := ⟨h1_⟩
              have n2_ : Aside0 (w31.heap[gb200]? = some (.cells #[.int .i64 0, .int .i64 0] 34 (0, 0))) := ⟨h2_⟩
              have n3_ : Aside0 (w.heap.size ≤ gb200) := ⟨h3_⟩
              have n4_ : Aside0 (w.heap.size ≤ gb200) := ⟨h4_⟩
              have n5_ : Aside0 (gb190 ≠ gb200) := ⟨h5_⟩
              have n6_ : Aside0 (gb200 ≠ gb190) := ⟨h6_⟩
              have n7_ : Aside0 (gb191 ≠ gb200) := ⟨h7_⟩
              have n8_ : Aside0 (gb200 ≠ gb191) := ⟨h8_⟩
              have n9_ : Aside0 (Below w.heap.size w w31) := ⟨h9_⟩
              clear BK190
              clear BK191
              clear HB
              clear h0_ h1_ h2_ h3_ h4_ h5_ h6_ h7_ h8_ h9_
              have BK190 := n0_
              have BK191 := n1_
              have BK200 := n2_
              have GW200 := n3_
              have GE200 := n4_
              have NB190_200 := n5_
              have NB200_190 := n6_
              have NB191_200 := n7_
              have NB200_191 := n8_
              have HB := n9_
              clear n0_ n1_ n2_ n3_ n4_ n5_ n6_ n7_ n8_ n9_
              have hHeld : w31.cell? ⟨gb190, 0, none⟩ = some (.int .i64 a0_0) ∧ w31.cell? ⟨gb190, 1, none⟩ = some (.bool a0_1) ∧ w31.cell? ⟨gb190, 2, none⟩ = some (.bool a0_2) ∧ w31.cell? ⟨gb190, 3, none⟩ = some (.slice A0_3 l0_3.length c0_3) := hS_
              refine norm_ (a' := ?_) ?_ ?_
              rotate_left
              ·
               simp only [putAll, Act.put, List.setIfInBounds_toArray, List.set_cons_zero, List.set_cons_succ]
               rfl
              refine two_ (i := 2) (j := 7) (Ni := some 29) (Nj := some 8) #[true, true, true, true, true, false, true, false, false, false] #[true, true, false, true, true, false, true, true, false, false] rfl rfl rfl rfl (two_of HT_.out (by kernel_rfl)) (by decide) (by decide) (fun K hK => ?_) (fun K hK => ?_)
              ·
               skip
               refine goes_ Try.func30 (by kernel_rfl) rfl #[.agg #[.int .i64 a0_0, .bool a0_1, .bool a0_2, .slice A0_3 l0_3.length c0_3], .bool false, .int .i64 a2] (by rfl) rfl rfl xv ?_
               with_reducible refine (fan_along.calls k a0_0 a0_1 a0_2 _ _ l0_3 false a2 t196 t197 _ ?side1 ?side2 A21.out).mono ?_
               (case side1 => exact xc2 (Kd.C_below HR0_3.out HB.out))
               (case side2 => exact HC0_3.out)
               rintro e w32 ⟨rfl, hb⟩
               refine ⟨_, rfl, ?_⟩
               have n0_ := am (xw BK190 hb)
               have n1_ := am (xw BK191 hb)
               have n2_ := am (xw BK200 hb)
               have n3_ := am (below_step (xh HB) hb)
               clear BK190
               clear BK191
               clear BK200
               clear HB
               have BK190 := n0_
               have BK191 := n1_
               have BK200 := n2_
               have HB := n3_
               clear n0_ n1_ n2_ n3_
               (try clear hb)
               (try clear hb2)
               (try clear hk)
               (try clear hi)
               refine hK.out _ _ ⟨(blk_cell BK190.out 0).trans rfl, (blk_cell BK190.out 1).trans rfl, (blk_cell BK190.out 2).trans rfl, (blk_cell BK190.out 3).trans rfl⟩ (fun hHeld => ?_)
               clear hK K
               refine norm_ (a' := ?_) ?_ ?_
               rotate_left
               ·
                show Act.put _ (some 29) _ = _
                simp only [Act.put, List.setIfInBounds_toArray, List.set_cons_zero, List.set_cons_succ, i64_w, i32_w]
                rfl
               exact xn (hJ2_6 (gb200) _ ⟨hHeld, (xb BK190), (xb BK191), (xb BK200), GW200.out, GE200.out, NB190_200.out, NB200_190.out, NB191_200.out, NB200_191.out, (xh HB)⟩)
              ·
               skip
               refine box_step ?hg (N := 8) ?hd (cs := #[.int .i64 0, .int .i64 0]) (t := 34) ?hr ?_; (case hd => rfl); (case hg => rfl); (case hr => first | (go_simp; done) | (go_simp; rfl))
               intro gb201 hg w32 hbox hb
               have n0_ := am (xw BK190 hb)
               have n1_ := am (xw BK191 hb)
               have n2_ := am (xw BK200 hb)
               have n3_ := am (below_step (xh HB) hb)
               have n4_ := am (hbox)
               have n5_ := am (xs hg HB)
               have n6_ := am (xs hg HB)
               have n7_ := am (xnl hg BK190)
               have n8_ := am (xng hg BK190)
               have n9_ := am (xnl hg BK191)
               have n10_ := am (xng hg BK191)
               have n11_ := am (xnl hg BK200)
               have n12_ := am (xng hg BK200)
               clear BK190
               clear BK191
               clear BK200
               clear HB
               have BK190 := n0_
               have BK191 := n1_
               have BK200 := n2_
               have HB := n3_
               have BK201 := n4_
               have GW201 := n5_
               have GE201 := n6_
               have NB190_201 := n7_
               have NB201_190 := n8_
               have NB191_201 := n9_
               have NB201_191 := n10_
               have NB200_201 := n11_
               have NB201_200 := n12_
               clear n0_ n1_ n2_ n3_ n4_ n5_ n6_ n7_ n8_ n9_ n10_ n11_ n12_
               clear hb hbox hg
               refine hK.out _ _ ⟨(blk_cell BK190.out 0).trans rfl, (blk_cell BK190.out 1).trans rfl, (blk_cell BK190.out 2).trans rfl, (blk_cell BK190.out 3).trans rfl⟩ (fun hHeld => ?_)
               clear hK K
               refine norm_ (a' := ?_) ?_ ?_
               rotate_left
               ·
                show Act.put _ (some 8) _ = _
                simp only [Act.put, List.setIfInBounds_toArray, List.set_cons_zero, List.set_cons_succ, i64_w, i32_w]
                rfl
               exact xn (hJ6_7 (gb200, gb201) _ ⟨hHeld, (xb BK190), (xb BK191), (xb BK200), (xb BK201), GW200.out, GE200.out, NB190_200.out, NB200_190.out, NB191_200.out, NB200_191.out, NB201_200.out, NB200_201.out, GW201.out, GE201.out, NB190_201.out, NB201_190.out, NB191_201.out, NB201_191.out, (xh HB)⟩)
            ·
             skip
             rintro _ w31 ⟨hS_, h0_, h1_, h2_⟩
             have n0_ : Aside0 (w31.heap[gb190]? = some (.cells #[.int .i64 a0_0, .bool a0_1, .bool a0_2, .slice A0_3 l0_3.length c0_3] 25 (0, 0))) := ⟨h0_⟩
             have n1_ : Aside0 (w31.heap[gb191]? = some (.cells #[.int .i64 0, .int .i64 0] 34 (0, 0))) := ⟨h1_⟩
             have n2_ : Aside0 (Below w.heap.size w w31) := ⟨h2_⟩
             clear BK190
             clear BK191
             clear HB
             clear h0_ h1_ h2_
             have BK190 := n0_
             have BK191 := n1_
             have HB := n2_
             clear n0_ n1_ n2_
             have hHeld : w31.cell? ⟨gb190, 0, none⟩ = some (.int .i64 a0_0) ∧ w31.cell? ⟨gb190, 1, none⟩ = some (.bool a0_1) ∧ w31.cell? ⟨gb190, 2, none⟩ = some (.bool a0_2) ∧ w31.cell? ⟨gb190, 3, none⟩ = some (.slice A0_3 l0_3.length c0_3) := hS_
             refine norm_ (a' := ?_) ?_ ?_
             rotate_left
             ·
              simp only [putAll, Act.put, List.setIfInBounds_toArray, List.set_cons_zero, List.set_cons_succ]
              rfl
             refine three_ (i := 5) (j := 6) (k := 7) (Ni := some 32) (Nj := some 7) (Nk := some 8) #[true, true, true, true, true, true, false, false, false, false] #[true, true, true, true, true, false, true, false, false, false] #[true, true, true, true, true, false, false, true, false, false] rfl rfl rfl rfl rfl rfl (three_of HT_.out (by kernel_rfl)) (by decide) (by decide) (by decide) (fun K hK => ?_) (fun K hK => ?_) (fun K hK => ?_)
             ·
              skip
              refine goes_ Try.func30 (by kernel_rfl) rfl #[.agg #[.int .i64 a0_0, .bool a0_1, .bool a0_2, .slice A0_3 l0_3.length c0_3], .bool true, .int .i64 a2] (by rfl) rfl rfl xv ?_
              with_reducible refine (fan_along.calls k a0_0 a0_1 a0_2 _ _ l0_3 true a2 t198 t199 _ ?side1 ?side2 A22.out).mono ?_
              (case side1 => exact xc2 (Kd.C_below HR0_3.out HB.out))
              (case side2 => exact HC0_3.out)
              rintro e w32 ⟨rfl, hb⟩
              refine ⟨_, rfl, ?_⟩
              have n0_ := am (xw BK190 hb)
              have n1_ := am (xw BK191 hb)
              have n2_ := am (below_step (xh HB) hb)
              clear BK190
              clear BK191
              clear HB
              have BK190 := n0_
              have BK191 := n1_
              have HB := n2_
              clear n0_ n1_ n2_
              (try clear hb)
              (try clear hb2)
              (try clear hk)
              (try clear hi)
              refine hK.out _ _ ⟨(blk_cell BK190.out 0).trans rfl, (blk_cell BK190.out 1).trans rfl, (blk_cell BK190.out 2).trans rfl, (blk_cell BK190.out 3).trans rfl⟩ (fun hHeld => ?_)
              clear hK K
              refine norm_ (a' := ?_) ?_ ?_
              rotate_left
              ·
               show Act.put _ (some 32) _ = _
               simp only [Act.put, List.setIfInBounds_toArray, List.set_cons_zero, List.set_cons_succ, i64_w, i32_w]
               rfl
              exact xn (hJ2_5 () _ ⟨hHeld, (xb BK190), (xb BK191), (xh HB)⟩)
             ·
              skip
              refine box_step ?hg (N := 7) ?hd (cs := #[.int .i64 0, .int .i64 0]) (t := 34) ?hr ?_; (case hd => rfl); (case hg => rfl); (case hr => first | (go_simp; done) | (go_simp; rfl))
              intro gb200 hg w32 hbox hb
              have n0_ := am (xw BK190 hb)
              have n1_ := am (xw BK191 hb)
              have n2_ := am (below_step (xh HB) hb)
              have n3_ := am (hbox)
              have n4_ := am (xs hg HB)
              have n5_ := am (xs hg HB)
              have n6_ := am (xnl hg BK190)
              have n7_ := am (xng hg BK190)
              have n8_ := am (xnl hg BK191)
              have n9_ := am (xng hg BK191)
              clear BK190
              clear BK191
              clear HB
              have BK190 := n0_
              have BK191 := n1_
              have HB := n2_
              have BK200 := n3_
              have GW200 := n4_
              have GE200 := n5_
              have NB190_200 := n6_
              have NB200_190 := n7_
              have NB191_200 := n8_
              have NB200_191 := n9_
              clear n0_ n1_ n2_ n3_ n4_ n5_ n6_ n7_ n8_ n9_
              clear hb hbox hg
              refine hK.out _ _ ⟨(blk_cell BK190.out 0).trans rfl, (blk_cell BK190.out 1).trans rfl, (blk_cell BK190.out 2).trans rfl, (blk_cell BK190.out 3).trans rfl⟩ (fun hHeld => ?_)
              clear hK K
              refine norm_ (a' := ?_) ?_ ?_
              rotate_left
              ·
               show Act.put _ (some 7) _ = _
               simp only [Act.put, List.setIfInBounds_toArray, List.set_cons_zero, List.set_cons_succ, i64_w, i32_w]
               rfl
              exact xn (hJ2_6 (gb200) _ ⟨hHeld, (xb BK190), (xb BK191), (xb BK200), GW200.out, GE200.out, NB190_200.out, NB200_190.out, NB191_200.out, NB200_191.out, (xh HB)⟩)
             ·
              skip
              refine box_step ?hg (N := 8) ?hd (cs := #[.int .i64 0, .int .i64 0]) (t := 34) ?hr ?_; (case hd => rfl); (case hg => rfl); (case hr => first | (go_simp; done) | (go_simp; rfl))
              intro gb201 hg w32 hbox hb
              have n0_ := am (xw BK190 hb)
              have n1_ := am (xw BK191 hb)
              have n2_ := am (below_step (xh HB) hb)
              have n3_ := am (hbox)
              have n4_ := am (xs hg HB)
              have n5_ := am (xs hg HB)
              have n6_ := am (xnl hg BK190)
              have n7_ := am (xng hg BK190)
              have n8_ := am (xnl hg BK191)
              have n9_ := am (xng hg BK191)
              clear BK190
              clear BK191
              clear HB
              have BK190 := n0_
              have BK191 := n1_
              have HB := n2_
              have BK201 := n3_
              have GW201 := n4_
              have GE201 := n5_
              have NB190_201 := n6_
              have NB201_190 := n7_
              have NB191_201 := n8_
              have NB201_191 := n9_
              clear n0_ n1_ n2_ n3_ n4_ n5_ n6_ n7_ n8_ n9_
              clear hb hbox hg
              refine hK.out _ _ ⟨(blk_cell BK190.out 0).trans rfl, (blk_cell BK190.out 1).trans rfl, (blk_cell BK190.out 2).trans rfl, (blk_cell BK190.out 3).trans rfl⟩ (fun hHeld => ?_)
              clear hK K
              refine norm_ (a' := ?_) ?_ ?_
              rotate_left
              ·
               show Act.put _ (some 8) _ = _
               simp only [Act.put, List.setIfInBounds_toArray, List.set_cons_zero, List.set_cons_succ, i64_w, i32_w]
               rfl
              exact xn (hJ2_7 (gb201) _ ⟨hHeld, (xb BK190), (xb BK191), (xb BK201), GW201.out, GE201.out, NB190_201.out, NB201_190.out, NB191_201.out, NB201_191.out, (xh HB)⟩)
           ·
            skip
            rintro ⟨gb200, gb201⟩ w32 ⟨hS_, h0_, h1_, h2_, h3_, h4_, h5_, h6_, h7_, h8_, h9_, h10_, h11_, h12_, h13_, h14_, h15_, h16_, h17_, h18_⟩
            have n0_ : Aside0 (w32.heap[gb190]? = some (.cells #[.int .i64 a0_0, .bool a0_1, .bool a0_2, .slice A0_3 l0_3.length c0_3] 25 (0, 0))) := ⟨h0_⟩
            have n1_ : Aside0 (w32.heap[gb191]? = some (.cells #[.int .i64 0, .int .i64 0] 34 (0, 0))) := ⟨h1_⟩
            have n2_ : Aside0 (w32.heap[gb200]? = some (.cells #[.int .i64 0, .int .i64 0] 34 (0, 0))) := ⟨h2_⟩
            have n3_ : Aside0 (w32.heap[gb201]? = some (.cells #[.int .i64 0, .int .i64 0] 34 (0, 0))) := ⟨h3_⟩
            have n4_ : Aside0 (w.heap.size ≤ gb200) := ⟨h4_⟩
            have n5_ : Aside0 (w.heap.size ≤ gb200) := ⟨h5_⟩
            have n6_ : Aside0 (gb190 ≠ gb200) := ⟨h6_⟩
            have n7_ : Aside0 (gb200 ≠ gb190) := ⟨h7_⟩
            have n8_ : Aside0 (gb191 ≠ gb200) := ⟨h8_⟩
            have n9_ : Aside0 (gb200 ≠ gb191) := ⟨h9_⟩
            have n10_ : Aside0 (gb201 ≠ gb200) := ⟨h10_⟩
            have n11_ : Aside0 (gb200 ≠ gb201) := ⟨h11_⟩
            have n12_ : Aside0 (w.heap.size ≤ gb201) := ⟨h12_⟩
            have n13_ : Aside0 (w.heap.size ≤ gb201) := ⟨h13_⟩
            have n14_ : Aside0 (gb190 ≠ gb201) := ⟨h14_⟩
            have n15_ : Aside0 (gb201 ≠ gb190) := ⟨h15_⟩
            have n16_ : Aside0 (gb191 ≠ gb201) := ⟨h16_⟩
            have n17_ : Aside0 (gb201 ≠ gb191) := ⟨h17_⟩
            have n18_ : Aside0 (Below w.heap.size w w32) := ⟨h18_⟩
            clear BK190
            clear BK191
            clear HB
            clear h0_ h1_ h2_ h3_ h4_ h5_ h6_ h7_ h8_ h9_ h10_ h11_ h12_ h13_ h14_ h15_ h16_ h17_ h18_
            have BK190 := n0_
            have BK191 := n1_
            have BK200 := n2_
            have BK201 := n3_
            have GW200 := n4_
            have GE200 := n5_
            have NB190_200 := n6_
            have NB200_190 := n7_
            have NB191_200 := n8_
            have NB200_191 := n9_
            have NB201_200 := n10_
            have NB200_201 := n11_
            have GW201 := n12_
            have GE201 := n13_
            have NB190_201 := n14_
            have NB201_190 := n15_
            have NB191_201 := n16_
            have NB201_191 := n17_
            have HB := n18_
            clear n0_ n1_ n2_ n3_ n4_ n5_ n6_ n7_ n8_ n9_ n10_ n11_ n12_ n13_ n14_ n15_ n16_ n17_ n18_
            have hHeld : w32.cell? ⟨gb190, 0, none⟩ = some (.int .i64 a0_0) ∧ w32.cell? ⟨gb190, 1, none⟩ = some (.bool a0_1) ∧ w32.cell? ⟨gb190, 2, none⟩ = some (.bool a0_2) ∧ w32.cell? ⟨gb190, 3, none⟩ = some (.slice A0_3 l0_3.length c0_3) := hS_
            refine norm_ (a' := ?_) ?_ ?_
            rotate_left
            ·
             simp only [putAll, Act.put, List.setIfInBounds_toArray, List.set_cons_zero, List.set_cons_succ]
             rfl
            refine one_ (i := 2) (N := some 29) #[true, true, true, true, true, false, true, true, false, false] rfl rfl (one_of HT_.out (by kernel_rfl)) (by decide) (fun K hK => ?_)
            refine goes_ Try.func30 (by kernel_rfl) rfl #[.agg #[.int .i64 a0_0, .bool a0_1, .bool a0_2, .slice A0_3 l0_3.length c0_3], .bool false, .int .i64 a2] (by rfl) rfl rfl xv ?_
            with_reducible refine (fan_along.calls k a0_0 a0_1 a0_2 _ _ l0_3 false a2 t196 t197 _ ?side1 ?side2 A21.out).mono ?_
            (case side1 => exact xc2 (Kd.C_below HR0_3.out HB.out))
            (case side2 => exact HC0_3.out)
            rintro e w33 ⟨rfl, hb⟩
            refine ⟨_, rfl, ?_⟩
            have n0_ := am (xw BK190 hb)
            have n1_ := am (xw BK191 hb)
            have n2_ := am (xw BK200 hb)
            have n3_ := am (xw BK201 hb)
            have n4_ := am (below_step (xh HB) hb)
            clear BK190
            clear BK191
            clear BK200
            clear BK201
            clear HB
            have BK190 := n0_
            have BK191 := n1_
            have BK200 := n2_
            have BK201 := n3_
            have HB := n4_
            clear n0_ n1_ n2_ n3_ n4_
            (try clear hb)
            (try clear hb2)
            (try clear hk)
            (try clear hi)
            refine hK.out _ _ ⟨(blk_cell BK190.out 0).trans rfl, (blk_cell BK190.out 1).trans rfl, (blk_cell BK190.out 2).trans rfl, (blk_cell BK190.out 3).trans rfl⟩ (fun hHeld => ?_)
            clear hK K
            refine norm_ (a' := ?_) ?_ ?_
            rotate_left
            ·
             show Act.put _ (some 29) _ = _
             simp only [Act.put, List.setIfInBounds_toArray, List.set_cons_zero, List.set_cons_succ, i64_w, i32_w]
             rfl
            exact xn (hJ2_6_7 (gb200, gb201) _ ⟨hHeld, (xb BK190), (xb BK191), (xb BK200), (xb BK201), GW200.out, GE200.out, NB190_200.out, NB200_190.out, NB191_200.out, NB200_191.out, NB201_200.out, NB200_201.out, GW201.out, GE201.out, NB190_201.out, NB201_190.out, NB191_201.out, NB201_191.out, (xh HB)⟩)
          ·
           skip
           rintro gb201 w32 ⟨hS_, h0_, h1_, h2_, h3_, h4_, h5_, h6_, h7_, h8_, h9_⟩
           have n0_ : Aside0 (w32.heap[gb190]? = some (.cells #[.int .i64 a0_0, .bool a0_1, .bool a0_2, .slice A0_3 l0_3.length c0_3] 25 (0, 0))) := ⟨h0_⟩
           have n1_ : Aside0 (w32.heap[gb191]? = some (.cells #[.int .i64 0, .int .i64 0] 34 (0, 0))) := ⟨h1_⟩
           have n2_ : Aside0 (w32.heap[gb201]? = some (.cells #[.int .i64 0, .int .i64 0] 34 (0, 0))) := ⟨h2_⟩
           have n3_ : Aside0 (w.heap.size ≤ gb201) := ⟨h3_⟩
           have n4_ : Aside0 (w.heap.size ≤ gb201) := ⟨h4_⟩
           have n5_ : Aside0 (gb190 ≠ gb201) := ⟨h5_⟩
           have n6_ : Aside0 (gb201 ≠ gb190) := ⟨h6_⟩
           have n7_ : Aside0 (gb191 ≠ gb201) := ⟨h7_⟩
           have n8_ : Aside0 (gb201 ≠ gb191) := ⟨h8_⟩
           have n9_ : Aside0 (Below w.heap.size w w32) := ⟨h9_⟩
           clear BK190
           clear BK191
           clear HB
           clear h0_ h1_ h2_ h3_ h4_ h5_ h6_ h7_ h8_ h9_
           have BK190 := n0_
           have BK191 := n1_
           have BK201 := n2_
           have GW201 := n3_
           have GE201 := n4_
           have NB190_201 := n5_
           have NB201_190 := n6_
           have NB191_201 := n7_
           have NB201_191 := n8_
           have HB := n9_
           clear n0_ n1_ n2_ n3_ n4_ n5_ n6_ n7_ n8_ n9_
           have hHeld : w32.cell? ⟨gb190, 0, none⟩ = some (.int .i64 a0_0) ∧ w32.cell? ⟨gb190, 1, none⟩ = some (.bool a0_1) ∧ w32.cell? ⟨gb190, 2, none⟩ = some (.bool a0_2) ∧ w32.cell? ⟨gb190, 3, none⟩ = some (.slice A0_3 l0_3.length c0_3) := hS_
           refine norm_ (a' := ?_) ?_ ?_
           rotate_left
           ·
            simp only [putAll, Act.put, List.setIfInBounds_toArray, List.set_cons_zero, List.set_cons_succ]
            rfl
           refine two_ (i := 5) (j := 6) (Ni := some 32) (Nj := some 7) #[true, true, true, true, true, true, false, true, false, false] #[true, true, true, true, true, false, true, true, false, false] rfl rfl rfl rfl (two_of HT_.out (by kernel_rfl)) (by decide) (by decide) (fun K hK => ?_) (fun K hK => ?_)
           ·
            skip
            refine goes_ Try.func30 (by kernel_rfl) rfl #[.agg #[.int .i64 a0_0, .bool a0_1, .bool a0_2, .slice A0_3 l0_3.length c0_3], .bool true, .int .i64 a2] (by rfl) rfl rfl xv ?_
            with_reducible refine (fan_along.calls k a0_0 a0_1 a0_2 _ _ l0_3 true a2 t198 t199 _ ?side1 ?side2 A22.out).mono ?_
            (case side1 => exact xc2 (Kd.C_below HR0_3.out HB.out))
            (case side2 => exact HC0_3.out)
            rintro e w33 ⟨rfl, hb⟩
            refine ⟨_, rfl, ?_⟩
            have n0_ := am (xw BK190 hb)
            have n1_ := am (xw BK191 hb)
            have n2_ := am (xw BK201 hb)
            have n3_ := am (below_step (xh HB) hb)
            clear BK190
            clear BK191
            clear BK201
            clear HB
            have BK190 := n0_
            have BK191 := n1_
            have BK201 := n2_
            have HB := n3_
            clear n0_ n1_ n2_ n3_
            (try clear hb)
            (try clear hb2)
            (try clear hk)
            (try clear hi)
            refine hK.out _ _ ⟨(blk_cell BK190.out 0).trans rfl, (blk_cell BK190.out 1).trans rfl, (blk_cell BK190.out 2).trans rfl, (blk_cell BK190.out 3).trans rfl⟩ (fun hHeld => ?_)
            clear hK K
            refine norm_ (a' := ?_) ?_ ?_
            rotate_left
            ·
             show Act.put _ (some 32) _ = _
             simp only [Act.put, List.setIfInBounds_toArray, List.set_cons_zero, List.set_cons_succ, i64_w, i32_w]
             rfl
            exact xn (hJ2_5_7 (gb201) _ ⟨hHeld, (xb BK190), (xb BK191), (xb BK201), GW201.out, GE201.out, NB190_201.out, NB201_190.out, NB191_201.out, NB201_191.out, (xh HB)⟩)
           ·
            skip
            refine box_step ?hg (N := 7) ?hd (cs := #[.int .i64 0, .int .i64 0]) (t := 34) ?hr ?_; (case hd => rfl); (case hg => rfl); (case hr => first | (go_simp; done) | (go_simp; rfl))
            intro gb200 hg w33 hbox hb
            have n0_ := am (xw BK190 hb)
            have n1_ := am (xw BK191 hb)
            have n2_ := am (xw BK201 hb)
            have n3_ := am (below_step (xh HB) hb)
            have n4_ := am (hbox)
            have n5_ := am (xs hg HB)
            have n6_ := am (xs hg HB)
            have n7_ := am (xnl hg BK190)
            have n8_ := am (xng hg BK190)
            have n9_ := am (xnl hg BK191)
            have n10_ := am (xng hg BK191)
            have n11_ := am (xnl hg BK201)
            have n12_ := am (xng hg BK201)
            clear BK190
            clear BK191
            clear BK201
            clear HB
            have BK190 := n0_
            have BK191 := n1_
            have BK201 := n2_
            have HB := n3_
            have BK200 := n4_
            have GW200 := n5_
            have GE200 := n6_
            have NB190_200 := n7_
            have NB200_190 := n8_
            have NB191_200 := n9_
            have NB200_191 := n10_
            have NB201_200 := n11_
            have NB200_201 := n12_
            clear n0_ n1_ n2_ n3_ n4_ n5_ n6_ n7_ n8_ n9_ n10_ n11_ n12_
            clear hb hbox hg
            refine hK.out _ _ ⟨(blk_cell BK190.out 0).trans rfl, (blk_cell BK190.out 1).trans rfl, (blk_cell BK190.out 2).trans rfl, (blk_cell BK190.out 3).trans rfl⟩ (fun hHeld => ?_)
            clear hK K
            refine norm_ (a' := ?_) ?_ ?_
            rotate_left
            ·
             show Act.put _ (some 7) _ = _
             simp only [Act.put, List.setIfInBounds_toArray, List.set_cons_zero, List.set_cons_succ, i64_w, i32_w]
             rfl
            exact xn (hJ2_6_7 (gb200, gb201) _ ⟨hHeld, (xb BK190), (xb BK191), (xb BK200), (xb BK201), GW200.out, GE200.out, NB190_200.out, NB200_190.out, NB191_200.out, NB200_191.out, NB201_200.out, NB200_201.out, GW201.out, GE201.out, NB190_201.out, NB201_190.out, NB191_201.out, NB201_191.out, (xh HB)⟩)
         ·
          skip
          rintro gb200 w32 ⟨hS_, h0_, h1_, h2_, h3_, h4_, h5_, h6_, h7_, h8_, h9_⟩
          have n0_ : Aside0 (w32.heap[gb190]? = some (.cells #[.int .i64 a0_0, .bool a0_1, .bool a0_2, .slice A0_3 l0_3.length c0_3] 25 (0, 0))) := ⟨h0_⟩
          have n1_ : Aside0 (w32.heap[gb191]? = some (.cells #[.int .i64 0, .int .i64 0] 34 (0, 0))) := ⟨h1_⟩
          have n2_ : Aside0 (w32.heap[gb200]? = some (.cells #[.int .i64 0, .int .i64 0] 34 (0, 0))) := ⟨h2_⟩
          have n3_ : Aside0 (w.heap.size ≤ gb200) := ⟨h3_⟩
          have n4_ : Aside0 (w.heap.size ≤ gb200) := ⟨h4_⟩
          have n5_ : Aside0 (gb190 ≠ gb200) := ⟨h5_⟩
          have n6_ : Aside0 (gb200 ≠ gb190) := ⟨h6_⟩
          have n7_ : Aside0 (gb191 ≠ gb200) := ⟨h7_⟩
          have n8_ : Aside0 (gb200 ≠ gb191) := ⟨h8_⟩
          have n9_ : Aside0 (Below w.heap.size w w32) := ⟨h9_⟩
          clear BK190
          clear BK191
          clear HB
          clear h0_ h1_ h2_ h3_ h4_ h5_ h6_ h7_ h8_ h9_
          have BK190 := n0_
          have BK191 := n1_
          have BK200 := n2_
          have GW200 := n3_
          have GE200 := n4_
          have NB190_200 := n5_
          have NB200_190 := n6_
          have NB191_200 := n7_
          have NB200_191 := n8_
          have HB := n9_
          clear n0_ n1_ n2_ n3_ n4_ n5_ n6_ n7_ n8_ n9_
          have hHeld : w32.cell? ⟨gb190, 0, none⟩ = some (.int .i64 a0_0) ∧ w32.cell? ⟨gb190, 1, none⟩ = some (.bool a0_1) ∧ w32.cell? ⟨gb190, 2, none⟩ = some (.bool a0_2) ∧ w32.cell? ⟨gb190, 3, none⟩ = some (.slice A0_3 l0_3.length c0_3) := hS_
          refine norm_ (a' := ?_) ?_ ?_
          rotate_left
          ·
           simp only [putAll, Act.put, List.setIfInBounds_toArray, List.set_cons_zero, List.set_cons_succ]
           rfl
          refine two_ (i := 5) (j := 7) (Ni := some 32) (Nj := some 8) #[true, true, true, true, true, true, true, false, false, false] #[true, true, true, true, true, false, true, true, false, false] rfl rfl rfl rfl (two_of HT_.out (by kernel_rfl)) (by decide) (by decide) (fun K hK => ?_) (fun K hK => ?_)
          ·
           skip
           refine goes_ Try.func30 (by kernel_rfl) rfl #[.agg #[.int .i64 a0_0, .bool a0_1, .bool a0_2, .slice A0_3 l0_3.length c0_3], .bool true, .int .i64 a2] (by rfl) rfl rfl xv ?_
           with_reducible refine (fan_along.calls k a0_0 a0_1 a0_2 _ _ l0_3 true a2 t198 t199 _ ?side1 ?side2 A22.out).mono ?_
           (case side1 => exact xc2 (Kd.C_below HR0_3.out HB.out))
           (case side2 => exact HC0_3.out)
           rintro e w33 ⟨rfl, hb⟩
           refine ⟨_, rfl, ?_⟩
           have n0_ := am (xw BK190 hb)
           have n1_ := am (xw BK191 hb)
           have n2_ := am (xw BK200 hb)
           have n3_ := am (below_step (xh HB) hb)
           clear BK190
           clear BK191
           clear BK200
           clear HB
           have BK190 := n0_
           have BK191 := n1_
           have BK200 := n2_
           have HB := n3_
           clear n0_ n1_ n2_ n3_
           (try clear hb)
           (try clear hb2)
           (try clear hk)
           (try clear hi)
           refine hK.out _ _ ⟨(blk_cell BK190.out 0).trans rfl, (blk_cell BK190.out 1).trans rfl, (blk_cell BK190.out 2).trans rfl, (blk_cell BK190.out 3).trans rfl⟩ (fun hHeld => ?_)
           clear hK K
           refine norm_ (a' := ?_) ?_ ?_
           rotate_left
           ·
            show Act.put _ (some 32) _ = _
            simp only [Act.put, List.setIfInBounds_toArray, List.set_cons_zero, List.set_cons_succ, i64_w, i32_w]
            rfl
           exact xn (hJ2_5_6 (gb200) _ ⟨hHeld, (xb BK190), (xb BK191), (xb BK200), GW200.out, GE200.out, NB190_200.out, NB200_190.out, NB191_200.out, NB200_191.out, (xh HB)⟩)
          ·
           skip
           refine box_step ?hg (N := 8) ?hd (cs := #[.int .i64 0, .int .i64 0]) (t := 34) ?hr ?_; (case hd => rfl); (case hg => rfl); (case hr => first | (go_simp; done) | (go_simp; rfl))
           intro gb201 hg w33 hbox hb
           have n0_ := am (xw BK190 hb)
           have n1_ := am (xw BK191 hb)
           have n2_ := am (xw BK200 hb)
           have n3_ := am (below_step (xh HB) hb)
           have n4_ := am (hbox)
           have n5_ := am (xs hg HB)
           have n6_ := am (xs hg HB)
           have n7_ := am (xnl hg BK190)
           have n8_ := am (xng hg BK190)
           have n9_ := am (xnl hg BK191)
           have n10_ := am (xng hg BK191)
           have n11_ := am (xnl hg BK200)
           have n12_ := am (xng hg BK200)
           clear BK190
           clear BK191
           clear BK200
           clear HB
           have BK190 := n0_
           have BK191 := n1_
           have BK200 := n2_
           have HB := n3_
           have BK201 := n4_
           have GW201 := n5_
           have GE201 := n6_
           have NB190_201 := n7_
           have NB201_190 := n8_
           have NB191_201 := n9_
           have NB201_191 := n10_
           have NB200_201 := n11_
           have NB201_200 := n12_
           clear n0_ n1_ n2_ n3_ n4_ n5_ n6_ n7_ n8_ n9_ n10_ n11_ n12_
           clear hb hbox hg
           refine hK.out _ _ ⟨(blk_cell BK190.out 0).trans rfl, (blk_cell BK190.out 1).trans rfl, (blk_cell BK190.out 2).trans rfl, (blk_cell BK190.out 3).trans rfl⟩ (fun hHeld => ?_)
           clear hK K
           refine norm_ (a' := ?_) ?_ ?_
           rotate_left
           ·
            show Act.put _ (some 8) _ = _
            simp only [Act.put, List.setIfInBounds_toArray, List.set_cons_zero, List.set_cons_succ, i64_w, i32_w]
            rfl
           exact xn (hJ2_6_7 (gb200, gb201) _ ⟨hHeld, (xb BK190), (xb BK191), (xb BK200), (xb BK201), GW200.out, GE200.out, NB190_200.out, NB200_190.out, NB191_200.out, NB200_191.out, NB201_200.out, NB200_201.out, GW201.out, GE201.out, NB190_201.out, NB201_190.out, NB191_201.out, NB201_191.out, (xh HB)⟩)
        ·
         skip
         rintro _ w32 ⟨hS_, h0_, h1_, h2_⟩
         have n0_ : Aside0 (w32.heap[gb190]? = some (.cells #[.int .i64 a0_0, .bool a0_1, .bool a0_2, .slice A0_3 l0_3.length c0_3] 25 (0, 0))) := ⟨h0_⟩
         have n1_ : Aside0 (w32.heap[gb191]? = some (.cells #[.int .i64 0, .int .i64 0] 34 (0, 0))) := ⟨h1_⟩
         have n2_ : Aside0 (Below w.heap.size w w32) := ⟨h2_⟩
         clear BK190
         clear BK191
         clear HB
         clear h0_ h1_ h2_
         have BK190 := n0_
         have BK191 := n1_
         have HB := n2_
         clear n0_ n1_ n2_
         have hHeld : w32.cell? ⟨gb190, 0, none⟩ = some (.int .i64 a0_0) ∧ w32.cell? ⟨gb190, 1, none⟩ = some (.bool a0_1) ∧ w32.cell? ⟨gb190, 2, none⟩ = some (.bool a0_2) ∧ w32.cell? ⟨gb190, 3, none⟩ = some (.slice A0_3 l0_3.length c0_3) := hS_
         refine norm_ (a' := ?_) ?_ ?_
         rotate_left
         ·
          simp only [putAll, Act.put, List.setIfInBounds_toArray, List.set_cons_zero, List.set_cons_succ]
          rfl
         refine two_ (i := 6) (j := 7) (Ni := some 7) (Nj := some 8) #[true, true, true, true, true, true, true, false, false, false] #[true, true, true, true, true, true, false, true, false, false] rfl rfl rfl rfl (two_of HT_.out (by kernel_rfl)) (by decide) (by decide) (fun K hK => ?_) (fun K hK => ?_)
         ·
          skip
          refine box_step ?hg (N := 7) ?hd (cs := #[.int .i64 0, .int .i64 0]) (t := 34) ?hr ?_; (case hd => rfl); (case hg => rfl); (case hr => first | (go_simp; done) | (go_simp; rfl))
          intro gb200 hg w33 hbox hb
          have n0_ := am (xw BK190 hb)
          have n1_ := am (xw BK191 hb)
          have n2_ := am (below_step (xh HB) hb)
          have n3_ := am (hbox)
          have n4_ := am (xs hg HB)
          have n5_ := am (xs hg HB)
          have n6_ := am (xnl hg BK190)
          have n7_ := am (xng hg BK190)
          have n8_ := am (xnl hg BK191)
          have n9_ := am (xng hg BK191)
          clear BK190
          clear BK191
          clear HB
          have BK190 := n0_
          have BK191 := n1_
          have HB := n2_
          have BK200 := n3_
          have GW200 := n4_
          have GE200 := n5_
          have NB190_200 := n6_
          have NB200_190 := n7_
          have NB191_200 := n8_
          have NB200_191 := n9_
          clear n0_ n1_ n2_ n3_ n4_ n5_ n6_ n7_ n8_ n9_
          clear hb hbox hg
          refine hK.out _ _ ⟨(blk_cell BK190.out 0).trans rfl, (blk_cell BK190.out 1).trans rfl, (blk_cell BK190.out 2).trans rfl, (blk_cell BK190.out 3).trans rfl⟩ (fun hHeld => ?_)
          clear hK K
          refine norm_ (a' := ?_) ?_ ?_
          rotate_left
          ·
           show Act.put _ (some 7) _ = _
           simp only [Act.put, List.setIfInBounds_toArray, List.set_cons_zero, List.set_cons_succ, i64_w, i32_w]
           rfl
          exact xn (hJ2_5_6 (gb200) _ ⟨hHeld, (xb BK190), (xb BK191), (xb BK200), GW200.out, GE200.out, NB190_200.out, NB200_190.out, NB191_200.out, NB200_191.out, (xh HB)⟩)
         ·
          skip
          refine box_step ?hg (N := 8) ?hd (cs := #[.int .i64 0, .int .i64 0]) (t := 34) ?hr ?_; (case hd => rfl); (case hg => rfl); (case hr => first | (go_simp; done) | (go_simp; rfl))
          intro gb201 hg w33 hbox hb
          have n0_ := am (xw BK190 hb)
          have n1_ := am (xw BK191 hb)
          have n2_ := am (below_step (xh HB) hb)
          have n3_ := am (hbox)
          have n4_ := am (xs hg HB)
          have n5_ := am (xs hg HB)
          have n6_ := am (xnl hg BK190)
          have n7_ := am (xng hg BK190)
          have n8_ := am (xnl hg BK191)
          have n9_ := am (xng hg BK191)
          clear BK190
          clear BK191
          clear HB
          have BK190 := n0_
          have BK191 := n1_
          have HB := n2_
          have BK201 := n3_
          have GW201 := n4_
          have GE201 := n5_
          have NB190_201 := n6_
          have NB201_190 := n7_
          have NB191_201 := n8_
          have NB201_191 := n9_
          clear n0_ n1_ n2_ n3_ n4_ n5_ n6_ n7_ n8_ n9_
          clear hb hbox hg
          refine hK.out _ _ ⟨(blk_cell BK190.out 0).trans rfl, (blk_cell BK190.out 1).trans rfl, (blk_cell BK190.out 2).trans rfl, (blk_cell BK190.out 3).trans rfl⟩ (fun hHeld => ?_)
          clear hK K
          refine norm_ (a' := ?_) ?_ ?_
          rotate_left
          ·
           show Act.put _ (some 8) _ = _
           simp only [Act.put, List.setIfInBounds_toArray, List.set_cons_zero, List.set_cons_succ, i64_w, i32_w]
           rfl
          exact xn (hJ2_5_7 (gb201) _ ⟨hHeld, (xb BK190), (xb BK191), (xb BK201), GW201.out, GE201.out, NB190_201.out, NB201_190.out, NB191_201.out, NB201_191.out, (xh HB)⟩)
       ·
        skip
        rintro ⟨gb200, gb201⟩ w33 ⟨hS_, h0_, h1_, h2_, h3_, h4_, h5_, h6_, h7_, h8_, h9_, h10_, h11_, h12_, h13_, h14_, h15_, h16_, h17_, h18_⟩
        have n0_ : Aside0 (w33.heap[gb190]? = some (.cells #[.int .i64 a0_0, .bool a0_1, .bool a0_2, .slice A0_3 l0_3.length c0_3] 25 (0, 0))) := ⟨h0_⟩
        have n1_ : Aside0 (w33.heap[gb191]? = some (.cells #[.int .i64 0, .int .i64 0] 34 (0, 0))) := ⟨h1_⟩
        have n2_ : Aside0 (w33.heap[gb200]? = some (.cells #[.int .i64 0, .int .i64 0] 34 (0, 0))) := ⟨h2_⟩
        have n3_ : Aside0 (w33.heap[gb201]? = some (.cells #[.int .i64 0, .int .i64 0] 34 (0, 0))) := ⟨h3_⟩
        have n4_ : Aside0 (w.heap.size ≤ gb200) := ⟨h4_⟩
        have n5_ : Aside0 (w.heap.size ≤ gb200) := ⟨h5_⟩
        have n6_ : Aside0 (gb190 ≠ gb200) := ⟨h6_⟩
        have n7_ : Aside0 (gb200 ≠ gb190) := ⟨h7_⟩
        have n8_ : Aside0 (gb191 ≠ gb200) := ⟨h8_⟩
        have n9_ : Aside0 (gb200 ≠ gb191) := ⟨h9_⟩
        have n10_ : Aside0 (gb201 ≠ gb200) := ⟨h10_⟩
        have n11_ : Aside0 (gb200 ≠ gb201) := ⟨h11_⟩
        have n12_ : Aside0 (w.heap.size ≤ gb201) := ⟨h12_⟩
        have n13_ : Aside0 (w.heap.size ≤ gb201) := ⟨h13_⟩
        have n14_ : Aside0 (gb190 ≠ gb201) := ⟨h14_⟩
        have n15_ : Aside0 (gb201 ≠ gb190) := ⟨h15_⟩
        have n16_ : Aside0 (gb191 ≠ gb201) := ⟨h16_⟩
        have n17_ : Aside0 (gb201 ≠ gb191) := ⟨h17_⟩
        have n18_ : Aside0 (Below w.heap.size w w33) := ⟨h18_⟩
        clear BK190
        clear BK191
        clear HB
        clear h0_ h1_ h2_ h3_ h4_ h5_ h6_ h7_ h8_ h9_ h10_ h11_ h12_ h13_ h14_ h15_ h16_ h17_ h18_
        have BK190 := n0_
        have BK191 := n1_
        have BK200 := n2_
        have BK201 := n3_
        have GW200 := n4_
        have GE200 := n5_
        have NB190_200 := n6_
        have NB200_190 := n7_
        have NB191_200 := n8_
        have NB200_191 := n9_
        have NB201_200 := n10_
        have NB200_201 := n11_
        have GW201 := n12_
        have GE201 := n13_
        have NB190_201 := n14_
        have NB201_190 := n15_
        have NB191_201 := n16_
        have NB201_191 := n17_
        have HB := n18_
        clear n0_ n1_ n2_ n3_ n4_ n5_ n6_ n7_ n8_ n9_ n10_ n11_ n12_ n13_ n14_ n15_ n16_ n17_ n18_
        have hHeld : w33.cell? ⟨gb190, 0, none⟩ = some (.int .i64 a0_0) ∧ w33.cell? ⟨gb190, 1, none⟩ = some (.bool a0_1) ∧ w33.cell? ⟨gb190, 2, none⟩ = some (.bool a0_2) ∧ w33.cell? ⟨gb190, 3, none⟩ = some (.slice A0_3 l0_3.length c0_3) := hS_
        refine norm_ (a' := ?_) ?_ ?_
        rotate_left
        ·
         simp only [putAll, Act.put, List.setIfInBounds_toArray, List.set_cons_zero, List.set_cons_succ]
         rfl
        refine one_ (i := 5) (N := some 32) #[true, true, true, true, true, true, true, true, false, false] rfl rfl (one_of HT_.out (by kernel_rfl)) (by decide) (fun K hK => ?_)
        refine goes_ Try.func30 (by kernel_rfl) rfl #[.agg #[.int .i64 a0_0, .bool a0_1, .bool a0_2, .slice A0_3 l0_3.length c0_3], .bool true, .int .i64 a2] (by rfl) rfl rfl xv ?_
        with_reducible refine (fan_along.calls k a0_0 a0_1 a0_2 _ _ l0_3 true a2 t198 t199 _ ?side1 ?side2 A22.out).mono ?_
        (case side1 => exact xc2 (Kd.C_below HR0_3.out HB.out))
        (case side2 => exact HC0_3.out)
        rintro e w34 ⟨rfl, hb⟩
        refine ⟨_, rfl, ?_⟩
        have n0_ := am (xw BK190 hb)
        have n1_ := am (xw BK191 hb)
        have n2_ := am (xw BK200 hb)
        have n3_ := am (xw BK201 hb)
        have n4_ := am (below_step (xh HB) hb)
        clear BK190
        clear BK191
        clear BK200
        clear BK201
        clear HB
        have BK190 := n0_
        have BK191 := n1_
        have BK200 := n2_
        have BK201 := n3_
        have HB := n4_
        clear n0_ n1_ n2_ n3_ n4_
        (try clear hb)
        (try clear hb2)
        (try clear hk)
        (try clear hi)
        refine hK.out _ _ ⟨(blk_cell BK190.out 0).trans rfl, (blk_cell BK190.out 1).trans rfl, (blk_cell BK190.out 2).trans rfl, (blk_cell BK190.out 3).trans rfl⟩ (fun hHeld => ?_)
        clear hK K
        refine norm_ (a' := ?_) ?_ ?_
        rotate_left
        ·
         show Act.put _ (some 32) _ = _
         simp only [Act.put, List.setIfInBounds_toArray, List.set_cons_zero, List.set_cons_succ, i64_w, i32_w]
         rfl
        exact xn (hJ2_5_6_7 (gb200, gb201) _ ⟨hHeld, (xb BK190), (xb BK191), (xb BK200), (xb BK201), GW200.out, GE200.out, NB190_200.out, NB200_190.out, NB191_200.out, NB200_191.out, NB201_200.out, NB200_201.out, GW201.out, GE201.out, NB190_201.out, NB201_190.out, NB191_201.out, NB201_191.out, (xh HB)⟩)
      ·
       skip
       rintro gb201 w33 ⟨hS_, h0_, h1_, h2_, h3_, h4_, h5_, h6_, h7_, h8_, h9_⟩
       have n0_ : Aside0 (w33.heap[gb190]? = some (.cells #[.int .i64 a0_0, .bool a0_1, .bool a0_2, .slice A0_3 l0_3.length c0_3] 25 (0, 0))) := ⟨h0_⟩
       have n1_ : Aside0 (w33.heap[gb191]? = some (.cells #[.int .i64 0, .int .i64 0] 34 (0, 0))) := ⟨h1_⟩
       have n2_ : Aside0 (w33.heap[gb201]? = some (.cells #[.int .i64 0, .int .i64 0] 34 (0, 0))) := ⟨h2_⟩
       have n3_ : Aside0 (w.heap.size ≤ gb201) := ⟨h3_⟩
       have n4_ : Aside0 (w.heap.size ≤ gb201) := ⟨h4_⟩
       have n5_ : Aside0 (gb190 ≠ gb201) := ⟨h5_⟩
       have n6_ : Aside0 (gb201 ≠ gb190) := ⟨h6_⟩
       have n7_ : Aside0 (gb191 ≠ gb201) := ⟨h7_⟩
       have n8_ : Aside0 (gb201 ≠ gb191) := ⟨h8_⟩
       have n9_ : Aside0 (Below w.heap.size w w33) := ⟨h9_⟩
       clear BK190
       clear BK191
       clear HB
       clear h0_ h1_ h2_ h3_ h4_ h5_ h6_ h7_ h8_ h9_
       have BK190 := n0_
       have BK191 := n1_
       have BK201 := n2_
       have GW201 := n3_
       have GE201 := n4_
       have NB190_201 := n5_
       have NB201_190 := n6_
       have NB191_201 := n7_
       have NB201_191 := n8_
       have HB := n9_
       clear n0_ n1_ n2_ n3_ n4_ n5_ n6_ n7_ n8_ n9_
       have hHeld : w33.cell? ⟨gb190, 0, none⟩ = some (.int .i64 a0_0) ∧ w33.cell? ⟨gb190, 1, none⟩ = some (.bool a0_1) ∧ w33.cell? ⟨gb190, 2, none⟩ = some (.bool a0_2) ∧ w33.cell? ⟨gb190, 3, none⟩ = some (.slice A0_3 l0_3.length c0_3) := hS_
       refine norm_ (a' := ?_) ?_ ?_
       rotate_left
       ·
        simp only [putAll, Act.put, List.setIfInBounds_toArray, List.set_cons_zero, List.set_cons_succ]
        rfl
       refine one_ (i := 6) (N := some 7) #[true, true, true, true, true, true, true, true, false, false] rfl rfl (one_of HT_.out (by kernel_rfl)) (by decide) (fun K hK => ?_)
       refine box_step ?hg (N := 7) ?hd (cs := #[.int .i64 0, .int .i64 0]) (t := 34) ?hr ?_; (case hd => rfl); (case hg => rfl); (case hr => first | (go_simp; done) | (go_simp; rfl))
       intro gb200 hg w34 hbox hb
       have n0_ := am (xw BK190 hb)
       have n1_ := am (xw BK191 hb)
       have n2_ := am (xw BK201 hb)
       have n3_ := am (below_step (xh HB) hb)
       have n4_ := am (hbox)
       have n5_ := am (xs hg HB)
       have n6_ := am (xs hg HB)
       have n7_ := am (xnl hg BK190)
       have n8_ := am (xng hg BK190)
       have n9_ := am (xnl hg BK191)
       have n10_ := am (xng hg BK191)
       have n11_ := am (xnl hg BK201)
       have n12_ := am (xng hg BK201)
       clear BK190
       clear BK191
       clear BK201
       clear HB
       have BK190 := n0_
       have BK191 := n1_
       have BK201 := n2_
       have HB := n3_
       have BK200 := n4_
       have GW200 := n5_
       have GE200 := n6_
       have NB190_200 := n7_
       have NB200_190 := n8_
       have NB191_200 := n9_
       have NB200_191 := n10_
       have NB201_200 := n11_
       have NB200_201 := n12_
       clear n0_ n1_ n2_ n3_ n4_ n5_ n6_ n7_ n8_ n9_ n10_ n11_ n12_
       clear hb hbox hg
       refine hK.out _ _ ⟨(blk_cell BK190.out 0).trans rfl, (blk_cell BK190.out 1).trans rfl, (blk_cell BK190.out 2).trans rfl, (blk_cell BK190.out 3).trans rfl⟩ (fun hHeld => ?_)
       clear hK K
       refine norm_ (a' := ?_) ?_ ?_
       rotate_left
       ·
        show Act.put _ (some 7) _ = _
        simp only [Act.put, List.setIfInBounds_toArray, List.set_cons_zero, List.set_cons_succ, i64_w, i32_w]
        rfl
       exact xn (hJ2_5_6_7 (gb200, gb201) _ ⟨hHeld, (xb BK190), (xb BK191), (xb BK200), (xb BK201), GW200.out, GE200.out, NB190_200.out, NB200_190.out, NB191_200.out, NB200_191.out, NB201_200.out, NB200_201.out, GW201.out, GE201.out, NB190_201.out, NB201_190.out, NB191_201.out, NB201_191.out, (xh HB)⟩)
     ·
      skip
      rintro gb200 w33 ⟨hS_, h0_, h1_, h2_, h3_, h4_, h5_, h6_, h7_, h8_, h9_⟩
      have n0_ : Aside0 (w33.heap[gb190]? = some (.cells #[.int .i64 a0_0, .bool a0_1, .bool a0_2, .slice A0_3 l0_3.length c0_3] 25 (0, 0))) := ⟨h0_⟩
      have n1_ : Aside0 (w33.heap[gb191]? = some (.cells #[.int .i64 0, .int .i64 0] 34 (0, 0))) := ⟨h1_⟩
      have n2_ : Aside0 (w33.heap[gb200]? = some (.cells #[.int .i64 0, .int .i64 0] 34 (0, 0))) := ⟨h2_⟩
      have n3_ : Aside0 (w.heap.size ≤ gb200) := ⟨h3_⟩
      have n4_ : Aside0 (w.heap.size ≤ gb200) := ⟨h4_⟩
      have n5_ : Aside0 (gb190 ≠ gb200) := ⟨h5_⟩
      have n6_ : Aside0 (gb200 ≠ gb190) := ⟨h6_⟩
      have n7_ : Aside0 (gb191 ≠ gb200) := ⟨h7_⟩
      have n8_ : Aside0 (gb200 ≠ gb191) := ⟨h8_⟩
      have n9_ : Aside0 (Below w.heap.size w w33) := ⟨h9_⟩
      clear BK190
      clear BK191
      clear HB
      clear h0_ h1_ h2_ h3_ h4_ h5_ h6_ h7_ h8_ h9_
      have BK190 := n0_
      have BK191 := n1_
      have BK200 := n2_
      have GW200 := n3_
      have GE200 := n4_
      have NB190_200 := n5_
      have NB200_190 := n6_
      have NB191_200 := n7_
      have NB200_191 := n8_
      have HB := n9_
      clear n0_ n1_ n2_ n3_ n4_ n5_ n6_ n7_ n8_ n9_
      have hHeld : w33.cell? ⟨gb190, 0, none⟩ = some (.int .i64 a0_0) ∧ w33.cell? ⟨gb190, 1, none⟩ = some (.bool a0_1) ∧ w33.cell? ⟨gb190, 2, none⟩ = some (.bool a0_2) ∧ w33.cell? ⟨gb190, 3, none⟩ = some (.slice A0_3 l0_3.length c0_3) := hS_
      refine norm_ (a' := ?_) ?_ ?_
      rotate_left
      ·
       simp only [putAll, Act.put, List.setIfInBounds_toArray, List.set_cons_zero, List.set_cons_succ]
       rfl
      refine one_ (i := 7) (N := some 8) #[true, true, true, true, true, true, true, true, false, false] rfl rfl (one_of HT_.out (by kernel_rfl)) (by decide) (fun K hK => ?_)
      refine box_step ?hg (N := 8) ?hd (cs := #[.int .i64 0, .int .i64 0]) (t := 34) ?hr ?_; (case hd => rfl); (case hg => rfl); (case hr => first | (go_simp; done) | (go_simp; rfl))
      intro gb201 hg w34 hbox hb
      have n0_ := am (xw BK190 hb)
      have n1_ := am (xw BK191 hb)
      have n2_ := am (xw BK200 hb)
      have n3_ := am (below_step (xh HB) hb)
      have n4_ := am (hbox)
      have n5_ := am (xs hg HB)
      have n6_ := am (xs hg HB)
      have n7_ := am (xnl hg BK190)
      have n8_ := am (xng hg BK190)
      have n9_ := am (xnl hg BK191)
      have n10_ := am (xng hg BK191)
      have n11_ := am (xnl hg BK200)
      have n12_ := am (xng hg BK200)
      clear BK190
      clear BK191
      clear BK200
      clear HB
      have BK190 := n0_
      have BK191 := n1_
      have BK200 := n2_
      have HB := n3_
      have BK201 := n4_
      have GW201 := n5_
      have GE201 := n6_
      have NB190_201 := n7_
      have NB201_190 := n8_
      have NB191_201 := n9_
      have NB201_191 := n10_
      have NB200_201 := n11_
      have NB201_200 := n12_
      clear n0_ n1_ n2_ n3_ n4_ n5_ n6_ n7_ n8_ n9_ n10_ n11_ n12_
      clear hb hbox hg
      refine hK.out _ _ ⟨(blk_cell BK190.out 0).trans rfl, (blk_cell BK190.out 1).trans rfl, (blk_cell BK190.out 2).trans rfl, (blk_cell BK190.out 3).trans rfl⟩ (fun hHeld => ?_)
      clear hK K
      refine norm_ (a' := ?_) ?_ ?_
      rotate_left
      ·
       show Act.put _ (some 8) _ = _
       simp only [Act.put, List.setIfInBounds_toArray, List.set_cons_zero, List.set_cons_succ, i64_w, i32_w]
       rfl
      exact xn (hJ2_5_6_7 (gb200, gb201) _ ⟨hHeld, (xb BK190), (xb BK191), (xb BK200), (xb BK201), GW200.out, GE200.out, NB190_200.out, NB200_190.out, NB191_200.out, NB200_191.out, NB201_200.out, NB200_201.out, GW201.out, GE201.out, NB190_201.out, NB201_190.out, NB191_201.out, NB201_191.out, (xh HB)⟩)
    rintro ⟨gb200, gb201⟩ w34 ⟨hS_, h0_, h1_, h2_, h3_, h4_, h5_, h6_, h7_, h8_, h9_, h10_, h11_, h12_, h13_, h14_, h15_, h16_, h17_, h18_⟩
    have n0_ : Aside0 (w34.heap[gb190]? = some (.cells #[.int .i64 a0_0, .bool a0_1, .bool a0_2, .slice A0_3 l0_3.length c0_3] 25 (0, 0))) := ⟨h0_⟩
    have n1_ : Aside0 (w34.heap[gb191]? = some (.cells #[.int .i64 0, .int .i64 0] 34 (0, 0))) := ⟨h1_⟩
    have n2_ : Aside0 (w34.heap[gb200]? = some (.cells #[.int .i64 0, .int .i64 0] 34 (0, 0))) := ⟨h2_⟩
    have n3_ : Aside0 (w34.heap[gb201]? = some (.cells #[.int .i64 0, .int .i64 0] 34 (0, 0))) := ⟨h3_⟩
    have n4_ : Aside0 (w.heap.size ≤ gb200) := ⟨h4_⟩
    have n5_ : Aside0 (w.heap.size ≤ gb200) := ⟨h5_⟩
    have n6_ : Aside0 (gb190 ≠ gb200) := ⟨h6_⟩
    have n7_ : Aside0 (gb200 ≠ gb190) := ⟨h7_⟩
    have n8_ : Aside0 (gb191 ≠ gb200) := ⟨h8_⟩
    have n9_ : Aside0 (gb200 ≠ gb191) := ⟨h9_⟩
    have n10_ : Aside0 (gb201 ≠ gb200) := ⟨h10_⟩
    have n11_ : Aside0 (gb200 ≠ gb201) := ⟨h11_⟩
    have n12_ : Aside0 (w.heap.size ≤ gb201) := ⟨h12_⟩
    have n13_ : Aside0 (w.heap.size ≤ gb201) := ⟨h13_⟩
    have n14_ : Aside0 (gb190 ≠ gb201) := ⟨h14_⟩
    have n15_ : Aside0 (gb201 ≠ gb190) := ⟨h15_⟩
    have n16_ : Aside0 (gb191 ≠ gb201) := ⟨h16_⟩
    have n17_ : Aside0 (gb201 ≠ gb191) := ⟨h17_⟩
    have n18_ : Aside0 (Below w.heap.size w w34) := ⟨h18_⟩
    clear BK190
    clear BK191
    clear HB
    clear h0_ h1_ h2_ h3_ h4_ h5_ h6_ h7_ h8_ h9_ h10_ h11_ h12_ h13_ h14_ h15_ h16_ h17_ h18_
    have BK190 := n0_
    have BK191 := n1_
    have BK200 := n2_
    have BK201 := n3_
    have GW200 := n4_
    have GE200 := n5_
    have NB190_200 := n6_
    have NB200_190 := n7_
    have NB191_200 := n8_
    have NB200_191 := n9_
    have NB201_200 := n10_
    have NB200_201 := n11_
    have GW201 := n12_
    have GE201 := n13_
    have NB190_201 := n14_
    have NB201_190 := n15_
    have NB191_201 := n16_
    have NB201_191 := n17_
    have HB := n18_
    clear n0_ n1_ n2_ n3_ n4_ n5_ n6_ n7_ n8_ n9_ n10_ n11_ n12_ n13_ n14_ n15_ n16_ n17_ n18_
    have hHeld : w34.cell? ⟨gb190, 0, none⟩ = some (.int .i64 a0_0) ∧ w34.cell? ⟨gb190, 1, none⟩ = some (.bool a0_1) ∧ w34.cell? ⟨gb190, 2, none⟩ = some (.bool a0_2) ∧ w34.cell? ⟨gb190, 3, none⟩ = some (.slice A0_3 l0_3.length c0_3) := hS_
    refine norm_ (a' := ?_) ?_ ?_
    rotate_left
    ·
     simp only [putAll, Act.put, List.setIfInBounds_toArray, List.set_cons_zero, List.set_cons_succ]
     rfl
    refine one_ (i := 8) (N := none) #[true, true, true, true, true, true, true, true, true, false] rfl rfl (one_of HT_.out (by kernel_rfl)) (by decide) (fun K hK => ?_)
    have hs35 : w34.cell? ⟨gb200, 0, none⟩ = some (.int .i64 0) := (blk_cell BK200.out 0).trans rfl
    have hfs35 := blk_frozen BK200.out 0
    have hns35_0 := NB190_200.out
    have hns35_1 := NB191_200.out
    have hns35_3 := NB201_200.out
    have hms35_0 := NB200_190.out
    have hms35_1 := NB200_191.out
    have hms35_3 := NB200_201.out
    have hs36 : w34.cell? ⟨gb200, 1, none⟩ = some (.int .i64 0) := (blk_cell BK200.out 1).trans rfl
    have hfs36 := blk_frozen BK200.out 1
    have hns36_0 := NB190_200.out
    have hns36_1 := NB191_200.out
    have hns36_3 := NB201_200.out
    have hms36_0 := NB200_190.out
    have hms36_1 := NB200_191.out
    have hms36_3 := NB200_201.out
    refine skip_ (w1 := ?_) (by rfl) rfl ?_ ?_
    rotate_left
    ·
     go_simp
     rfl
    refine hK.out _ _ ⟨((cell_far (p := ⟨gb200, _, none⟩) NB190_200.out _).trans (((cell_far (p := ⟨gb200, _, none⟩) NB190_200.out _).trans (hHeld.1)))), ((cell_far (p := ⟨gb200, _, none⟩) NB190_200.out _).trans (((cell_far (p := ⟨gb200, _, none⟩) NB190_200.out _).trans (hHeld.2.1)))), ((cell_far (p := ⟨gb200, _, none⟩) NB190_200.out _).trans (((cell_far (p := ⟨gb200, _, none⟩) NB190_200.out _).trans (hHeld.2.2.1)))), ((cell_far (p := ⟨gb200, _, none⟩) NB190_200.out _).trans (((cell_far (p := ⟨gb200, _, none⟩) NB190_200.out _).trans (hHeld.2.2.2))))⟩ (fun hHeld => ?_)
    clear hK K
    refine one_ (i := 9) (N := none) #[true, true, true, true, true, true, true, true, true, true] rfl rfl (one_of HT_.out (by kernel_rfl)) (by decide) (fun K hK => ?_)
    have hs37 : w34.cell? ⟨gb201, 0, none⟩ = some (.int .i64 0) := (blk_cell BK201.out 0).trans rfl
    have hfs37 := blk_frozen BK201.out 0
    have hns37_0 := NB190_201.out
    have hns37_1 := NB191_201.out
    have hns37_2 := NB200_201.out
    have hms37_0 := NB201_190.out
    have hms37_1 := NB201_191.out
    have hms37_2 := NB201_200.out
    have hs38 : w34.cell? ⟨gb201, 1, none⟩ = some (.int .i64 0) := (blk_cell BK201.out 1).trans rfl
    have hfs38 := blk_frozen BK201.out 1
    have hns38_0 := NB190_201.out
    have hns38_1 := NB191_201.out
    have hns38_2 := NB200_201.out
    have hms38_0 := NB201_190.out
    have hms38_1 := NB201_191.out
    have hms38_2 := NB201_200.out
    refine skip_ (w1 := ?_) (by rfl) rfl ?_ ?_
    rotate_left
    ·
     go_simp
     rfl
    refine hK.out _ _ ⟨((cell_far (p := ⟨gb201, _, none⟩) NB190_201.out _).trans (((cell_far (p := ⟨gb201, _, none⟩) NB190_201.out _).trans (hHeld.1)))), ((cell_far (p := ⟨gb201, _, none⟩) NB190_201.out _).trans (((cell_far (p := ⟨gb201, _, none⟩) NB190_201.out _).trans (hHeld.2.1)))), ((cell_far (p := ⟨gb201, _, none⟩) NB190_201.out _).trans (((cell_far (p := ⟨gb201, _, none⟩) NB190_201.out _).trans (hHeld.2.2.1)))), ((cell_far (p := ⟨gb201, _, none⟩) NB190_201.out _).trans (((cell_far (p := ⟨gb201, _, none⟩) NB190_201.out _).trans (hHeld.2.2.2))))⟩ (fun hHeld => ?_)
    clear hK K
    refine done_ (done_of HT_.out (by kernel_rfl)) ?_
    have hnb39 := NB200_190.out
    have hnc39 := NB190_200.out
    have hnb40 := NB200_191.out
    have hnc40 := NB191_200.out
    have hnb41 := NB200_201.out
    have hnc41 := NB201_200.out
    have hcz42_0 : w34.cell? ⟨gb200, 0, none⟩ = some (.int .i64 0) := (blk_cell BK200.out 0).trans rfl
    have hcz42_1 : w34.cell? ⟨gb200, 1, none⟩ = some (.int .i64 0) := (blk_cell BK200.out 1).trans rfl
    have hfz42_0 := blk_frozen BK200.out 0
    have hfz42_1 := blk_frozen BK200.out 1
    have hnb43 := NB201_190.out
    have hnc43 := NB190_201.out
    have hnb44 := NB201_191.out
    have hnc44 := NB191_201.out
    have hcz45_0 : w34.cell? ⟨gb201, 0, none⟩ = some (.int .i64 0) := (blk_cell BK201.out 0).trans rfl
    have hcz45_1 : w34.cell? ⟨gb201, 1, none⟩ = some (.int .i64 0) := (blk_cell BK201.out 1).trans rfl
    have hfz45_0 := blk_frozen BK201.out 0
    have hfz45_1 := blk_frozen BK201.out 1
    have hnb46 := NB191_190.out
    have hnc46 := NB190_191.out
    have hcz47_0 : w34.cell? ⟨gb191, 0, none⟩ = some (.int .i64 0) := (blk_cell BK191.out 0).trans rfl
    have hcz47_1 : w34.cell? ⟨gb191, 1, none⟩ = some (.int .i64 0) := (blk_cell BK191.out 1).trans rfl
    have hfz47_0 := blk_frozen BK191.out 0
    have hfz47_1 := blk_frozen BK191.out 1
    try go_wp2
    refine bodyPost_ret (results_cell_row rfl _ _ gb191 34 #[.int .i64 ji24, .int .i64 ji26] (0, 0) _ rfl (by (with_reducible repeat (first | refine blk_drewN ?_ _ | refine blk_drew ?_ | refine blk_alloc ?_ _)); refine blk_put (cs := #[.int .i64 ji24, .int .i64 0]) ?_ 1 _ rfl; (with_reducible repeat (first | refine blk_drewN ?_ _ | refine blk_drew ?_ | refine blk_alloc ?_ _)); refine blk_put (cs := #[.int .i64 0, .int .i64 0]) ?_ 0 _ rfl; (with_reducible repeat (first | refine blk_drewN ?_ _ | refine blk_drew ?_ | refine blk_alloc ?_ _)); refine blk_far ?_ NB191_201.out _; (with_reducible repeat (first | refine blk_drewN ?_ _ | refine blk_drew ?_ | refine blk_alloc ?_ _)); refine blk_far ?_ NB191_201.out _; (with_reducible repeat (first | refine blk_drewN ?_ _ | refine blk_drew ?_ | refine blk_alloc ?_ _)); refine blk_far ?_ NB191_200.out _; (with_reducible repeat (first | refine blk_drewN ?_ _ | refine blk_drew ?_ | refine blk_alloc ?_ _)); refine blk_far ?_ NB191_200.out _; (with_reducible repeat (first | refine blk_drewN ?_ _ | refine blk_drew ?_ | refine blk_alloc ?_ _)); exact BK191.out) Try.underlying34 rfl (by kernel_rfl)) rfl ?_
    exact ⟨by first | rfl | (simp [errW_none, errW_some] <;> rfl) | (simp only [← hji23, ← hji24, ← hji25, ← hji26]; first | rfl | (simp [errW_none, errW_some] <;> rfl)) | (simp [*, errW_none, errW_some] <;> rfl), xh HB⟩
   ·
    rw [if_neg c20] at H
    have c20b0 : (a1 == (-1)) = false := beq_eq_false_iff_ne.mpr c20
    have c20b1 : (a1 != (-1)) = true := bne_iff_ne.mpr c20
    simp only [Option.some.injEq, Prod.mk.injEq] at H
    obtain ⟨rfl, rfl⟩ := H
    go_enter Try.func24, Try.ntmps24
    go_wp2_with (first | ((with_reducible refine gate_dst (N := 3) rfl ?_); refine xbox 3 (cs := #[.int .i64 a0_0, .bool a0_1, .bool a0_2, .slice A0_3 l0_3.length c0_3]) (t := 25) ?_; intro gb190 hg w48 hbox hb; have n0_ := am (below_step (xh HB) hb); have n1_ := am (hbox); have n2_ := am (xs hg HB); have n3_ := am (xs hg HB); clear HB; have HB := n0_; have BK190 := n1_; have GW190 := n2_; have GE190 := n3_; clear n0_ n1_ n2_ n3_; clear hb hbox hg) | ((with_reducible refine gate_dst (N := 6) rfl ?_); refine xbox 6 (cs := #[.int .i64 0, .int .i64 0]) (t := 34) ?_; intro gb191 hg w49 hbox hb; have n0_ := am (xw BK190 hb); have n1_ := am (below_step (xh HB) hb); have n2_ := am (hbox); have n3_ := am (xs hg HB); have n4_ := am (xs hg HB); have n5_ := am (xnl hg BK190); have n6_ := am (xng hg BK190); clear BK190; clear HB; have BK190 := n0_; have HB := n1_; have BK191 := n2_; have GW191 := n3_; have GE191 := n4_; have NB190_191 := n5_; have NB191_190 := n6_; clear n0_ n1_ n2_ n3_ n4_ n5_ n6_; clear hb hbox hg; have hnb50 := NB191_190.out; have hnc50 := NB190_191.out; have hcz51_0 : w49.cell? ⟨gb191, 0, none⟩ = some (.int .i64 0) := (blk_cell BK191.out 0).trans rfl; have hcz51_1 : w49.cell? ⟨gb191, 1, none⟩ = some (.int .i64 0) := (blk_cell BK191.out 1).trans rfl; have hfz51_0 := blk_frozen BK191.out 0; have hfz51_1 := blk_frozen BK191.out 1))
    refine bodyPost_ret (results_cell_row rfl _ _ gb191 34 #[.int .i64 0, .int .i64 0] (0, 0) _ rfl (by (with_reducible repeat (first | refine blk_drewN ?_ _ | refine blk_drew ?_ | refine blk_alloc ?_ _)); refine blk_put (cs := #[.int .i64 0, .int .i64 0]) ?_ 1 _ rfl; (with_reducible repeat (first | refine blk_drewN ?_ _ | refine blk_drew ?_ | refine blk_alloc ?_ _)); refine blk_put (cs := #[.int .i64 0, .int .i64 0]) ?_ 0 _ rfl; (with_reducible repeat (first | refine blk_drewN ?_ _ | refine blk_drew ?_ | refine blk_alloc ?_ _)); exact BK191.out) Try.underlying34 rfl (by kernel_rfl)) rfl ?_
    exact ⟨by first | rfl | (simp [errW_none, errW_some] <;> rfl) | (simp [*, errW_none, errW_some] <;> rfl), xh HB⟩

end Go.Proofs.Ytbiempkdfnfpgaa.PA
