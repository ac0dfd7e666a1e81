-- written by a program of this session, a changed copy of the kit print
import Derived.Test.YtbiempkdfnfpgaaPAx0
import Derived.Test.YtbiempkdfnfpgaaPAx1
import Derived.Test.YtbiempkdfnfpgaaPAx2
import Derived.Test.YtbiempkdfnfpgaaPAx3
import Derived.Test.YtbiempkdfnfpgaaPAx5
import Derived.Test.YtbiempkdfnfpgaaPAx7
import Derived.Test.YtbiempkdfnfpgaaPAx9
import Derived.Test.YtbiempkdfnfpgaaQ
namespace Go.Proofs.Ytbiempkdfnfpgaa.PA
open Go.RowKit Go.Proofs.YtbiempkdfnfpgaaW.PrintWords Go.Proofs.YtbiempkdfnfpgaaW.PrintLast Go.Proofs.YtbiempkdfnfpgaaW.PrintMore Go.Proofs.Ytbiempkdfnfpgaa.Q
attribute [local go_sem] Instr.field asAgg part isAgg max2_int min2_int max_two min_two max_three min_three max_four min_four   -- for this text's walks alone
set_option linter.unusedVariables false
set_option linter.unusedSimpArgs false

attribute [local go_sem high] eqA34
/-! ### minecontrollaw07_FanPoints: function 8 -/
def minecontrollaw07_FanPoints.f (k : Nat) (l0 : List Int) (a1 : Int) (a2 : Int) : Option (Bool) := (minecontrollaw07_made.f k l0 0 0).bind fun bt338 => ((minecontrolref07_Check.f k bt338.1 bt338.2.1 bt338.2.2.1 bt338.2.2.2).bind fun t345 => (if t345 = 0 then ((minecontroldraw_Mod.f a1 (bt338.2.2.2.length : Int)).bind fun t347 => (if 0 ≤ t347 then (if t347 < (bt338.2.2.2.length : Int) then ((fan_Curve.f k bt338.1 bt338.2.1 bt338.2.2.1 bt338.2.2.2 ((rd_T42 bt338.2.2.2 t347).f0)).bind fun bt350 => (if (!(bt350.1 == ((rd_T42 bt338.2.2.2 t347).f1)) || (!(bt350.2 == ((rd_T42 bt338.2.2.2 t347).f1)))) = true then (none) else (if (wrap64 (t347 + 1)) = (bt338.2.2.2.length : Int) then ((minecontrollaw07_awake.f k).bind fun t352 => (some t352)) else (if 0 ≤ (wrap64 (t347 + 1)) then (if (wrap64 (t347 + 1)) < (bt338.2.2.2.length : Int) then (if (wrap64 ((wrap64 (((rd_T42 bt338.2.2.2 (wrap64 (t347 + 1))).f0) - ((rd_T42 bt338.2.2.2 t347).f0))) + 1)) = 0 then (none) else ((fan_Curve.f k bt338.1 bt338.2.1 bt338.2.2.1 bt338.2.2.2 (wrap64 (((rd_T42 bt338.2.2.2 t347).f0) + (Int.tmod (wrap64 (a2)) (wrap64 ((wrap64 (((rd_T42 bt338.2.2.2 (wrap64 (t347 + 1))).f0) - ((rd_T42 bt338.2.2.2 t347).f0))) + 1)))))).bind fun bt355 => (if ((rd_T42 bt338.2.2.2 (wrap64 (t347 + 1))).f1) ≤ bt355.1 then (if bt355.2 ≤ ((rd_T42 bt338.2.2.2 t347).f1) then (if (wrap64 (bt355.2 - bt355.1)) ≤ 1 then ((minecontrollaw07_awake.f k).bind fun t358 => (some t358)) else (none)) else (none)) else (none)))) else (none)) else (none))))) else (none)) else (none))) else ((minecontrollaw07_awake.f k).bind fun t346 => (some t346))))
theorem minecontrollaw07_FanPoints.mono : ∀ a0 a1 a2 k, LeO (minecontrollaw07_FanPoints.f k a0 a1 a2) (minecontrollaw07_FanPoints.f (k + 1) a0 a1 a2) := by
 intro a0 a1 a2 k
 unfold minecontrollaw07_FanPoints.f
 repeat' first
   | (with_reducible exact fan_Curve.mono _ _ _ _ _ _)
   | (with_reducible exact minecontrollaw07_awake.mono _)
   | (with_reducible exact minecontrollaw07_made.mono _ _ _ _)
   | (with_reducible exact minecontrolref07_Check.mono _ _ _ _ _)
   | (with_reducible exact LeO.refl _)
   | (with_reducible exact LeO.none _)
   | (with_reducible refine LeO.ite ?_ ?_)
   | (with_reducible refine LeO.bind ?_ (fun _ => ?_))
   | exact fan_Curve.mono _ _ _ _ _ _
   | exact minecontrollaw07_awake.mono _
   | exact minecontrollaw07_made.mono _ _ _ _
   | exact minecontrolref07_Check.mono _ _ _ _ _
   | exact LeO.none _
   | refine LeO.ite ?_ ?_
   | refine LeO.bind ?_ (fun _ => ?_)
def minecontrollaw07_FanPoints.T6 : Bool × List (List Nat × List Nat) := (true, [([], []), ([], []), ([1], [1]), ([0, 2], [0, 2]), ([], []), ([4], [4]), ([], []), ([6], [6]), ([5, 7], [5, 7]), ([3, 8], [3, 8])])
def minecontrollaw07_FanPoints.B6 : List Nat := [0, 0, 2, 7, 0, 16, 0, 64, 240, 511]
theorem minecontrollaw07_FanPoints.tab6 : rtab .any (opsOf Try.f8 6) = minecontrollaw07_FanPoints.T6 := by kernel_rfl
theorem minecontrollaw07_FanPoints.bits6 : waitsOk minecontrollaw07_FanPoints.T6.2 minecontrollaw07_FanPoints.B6 = true := by kernel_rfl
def minecontrollaw07_FanPoints.T11 : Bool × List (List Nat × List Nat) := (true, [([], []), ([], []), ([1], [1]), ([], []), ([3], [3]), ([], []), ([5], [5]), ([], []), ([7], [7]), ([6, 8], [6, 8]), ([9], [9]), ([4, 10], [4, 10]), ([2, 11], [2, 11]), ([0, 12], [0, 12]), ([], []), ([14, 13, 13, 0, 1, 2, 3, 4, 5, 6, 7, 8, 9, 10, 11, 12, 13, 14], [13, 14])])
def minecontrollaw07_FanPoints.B11 : List Nat := [0, 0, 2, 0, 8, 0, 32, 0, 128, 480, 992, 2040, 4094, 8191, 0, 32767]
theorem minecontrollaw07_FanPoints.tab11 : rtab .any (opsOf Try.f8 11) = minecontrollaw07_FanPoints.T11 := by kernel_rfl
theorem minecontrollaw07_FanPoints.bits11 : waitsOk minecontrollaw07_FanPoints.T11.2 minecontrollaw07_FanPoints.B11 = true := by kernel_rfl
set_option maxHeartbeats 8000000 in
set_option maxRecDepth 100000 in
theorem minecontrollaw07_FanPoints.calls (k : Nat) (A0 : Option Addr) (c0 : Nat) (l0 : List Int) (a1 : Int) (a2 : Int) (r : Bool) (w : World) (hr0 : Kd.C (Kd.int .u8) w A0 l0.length l0) (hc0 : l0.length ≤ c0) (h : minecontrollaw07_FanPoints.f k l0 a1 a2 = some r) :
  Calls Try.prog 8 #[.slice A0 l0.length c0, .int .i64 a1, .int .u8 a2] w fun e w' => e = .returned (.bool r) ∧ Below w.heap.size w w' := by
 have hu25 := Try.underlying25
 have hu42 := Try.underlying42
 have hu34 := Try.underlying34
 have HR0 := am hr0
 have HC0 := am hc0
 clear hr0 hc0
 have HB := am (Below.refl w.heap.size w)
 have H : ((minecontrollaw07_made.f k l0 0 0).bind fun bt338 => ((minecontrolref07_Check.f k bt338.1 bt338.2.1 bt338.2.2.1 bt338.2.2.2).bind fun t345 => (if t345 = 0 then ((minecontroldraw_Mod.f a1 (bt338.2.2.2.length : Int)).bind fun t347 => (if 0 ≤ t347 then (if t347 < (bt338.2.2.2.length : Int) then ((fan_Curve.f k bt338.1 bt338.2.1 bt338.2.2.1 bt338.2.2.2 ((rd_T42 bt338.2.2.2 t347).f0)).bind fun bt350 => (if (!(bt350.1 == ((rd_T42 bt338.2.2.2 t347).f1)) || (!(bt350.2 == ((rd_T42 bt338.2.2.2 t347).f1)))) = true then (none) else (if (wrap64 (t347 + 1)) = (bt338.2.2.2.length : Int) then ((minecontrollaw07_awake.f k).bind fun t352 => (some t352)) else (if 0 ≤ (wrap64 (t347 + 1)) then (if (wrap64 (t347 + 1)) < (bt338.2.2.2.length : Int) then (if (wrap64 ((wrap64 (((rd_T42 bt338.2.2.2 (wrap64 (t347 + 1))).f0) - ((rd_T42 bt338.2.2.2 t347).f0))) + 1)) = 0 then (none) else ((fan_Curve.f k bt338.1 bt338.2.1 bt338.2.2.1 bt338.2.2.2 (wrap64 (((rd_T42 bt338.2.2.2 t347).f0) + (Int.tmod (wrap64 (a2)) (wrap64 ((wrap64 (((rd_T42 bt338.2.2.2 (wrap64 (t347 + 1))).f0) - ((rd_T42 bt338.2.2.2 t347).f0))) + 1)))))).bind fun bt355 => (if ((rd_T42 bt338.2.2.2 (wrap64 (t347 + 1))).f1) ≤ bt355.1 then (if bt355.2 ≤ ((rd_T42 bt338.2.2.2 t347).f1) then (if (wrap64 (bt355.2 - bt355.1)) ≤ 1 then ((minecontrollaw07_awake.f k).bind fun t358 => (some t358)) else (none)) else (none)) else (none)))) else (none)) else (none))))) else (none)) else (none))) else ((minecontrollaw07_awake.f k).bind fun t346 => (some t346))))) = some r := h
 clear h
 replace H := Option.bind_eq_some_iff.mp H
 obtain ⟨⟨t338, t339, t340, t341⟩, A40, H⟩ := H
 replace H : ((minecontrolref07_Check.f k t338 t339 t340 t341).bind fun t345 => (if t345 = 0 then ((minecontroldraw_Mod.f a1 (t341.length : Int)).bind fun t347 => (if 0 ≤ t347 then (if t347 < (t341.length : Int) then ((fan_Curve.f k t338 t339 t340 t341 ((rd_T42 t341 t347).f0)).bind fun bt350 => (if (!(bt350.1 == ((rd_T42 t341 t347).f1)) || (!(bt350.2 == ((rd_T42 t341 t347).f1)))) = true then (none) else (if (wrap64 (t347 + 1)) = (t341.length : Int) then ((minecontrollaw07_awake.f k).bind fun t352 => (some t352)) else (if 0 ≤ (wrap64 (t347 + 1)) then (if (wrap64 (t347 + 1)) < (t341.length : Int) then (if (wrap64 ((wrap64 (((rd_T42 t341 (wrap64 (t347 + 1))).f0) - ((rd_T42 t341 t347).f0))) + 1)) = 0 then (none) else ((fan_Curve.f k t338 t339 t340 t341 (wrap64 (((rd_T42 t341 t347).f0) + (Int.tmod (wrap64 (a2)) (wrap64 ((wrap64 (((rd_T42 t341 (wrap64 (t347 + 1))).f0) - ((rd_T42 t341 t347).f0))) + 1)))))).bind fun bt355 => (if ((rd_T42 t341 (wrap64 (t347 + 1))).f1) ≤ bt355.1 then (if bt355.2 ≤ ((rd_T42 t341 t347).f1) then (if (wrap64 (bt355.2 - bt355.1)) ≤ 1 then ((minecontrollaw07_awake.f k).bind fun t358 => (some t358)) else (none)) else (none)) else (none)))) else (none)) else (none))))) else (none)) else (none))) else ((minecontrollaw07_awake.f k).bind fun t346 => (some t346)))) = some r := H
 have A4 := am A40
 clear A40
 replace H := Option.bind_eq_some_iff.mp H
 obtain ⟨t345, A50, H⟩ := H
 replace H : (if t345 = 0 then ((minecontroldraw_Mod.f a1 (t341.length : Int)).bind fun t347 => (if 0 ≤ t347 then (if t347 < (t341.length : Int) then ((fan_Curve.f k t338 t339 t340 t341 ((rd_T42 t341 t347).f0)).bind fun bt350 => (if (!(bt350.1 == ((rd_T42 t341 t347).f1)) || (!(bt350.2 == ((rd_T42 t341 t347).f1)))) = true then (none) else (if (wrap64 (t347 + 1)) = (t341.length : Int) then ((minecontrollaw07_awake.f k).bind fun t352 => (some t352)) else (if 0 ≤ (wrap64 (t347 + 1)) then (if (wrap64 (t347 + 1)) < (t341.length : Int) then (if (wrap64 ((wrap64 (((rd_T42 t341 (wrap64 (t347 + 1))).f0) - ((rd_T42 t341 t347).f0))) + 1)) = 0 then (none) else ((fan_Curve.f k t338 t339 t340 t341 (wrap64 (((rd_T42 t341 t347).f0) + (Int.tmod (wrap64 (a2)) (wrap64 ((wrap64 (((rd_T42 t341 (wrap64 (t347 + 1))).f0) - ((rd_T42 t341 t347).f0))) + 1)))))).bind fun bt355 => (if ((rd_T42 t341 (wrap64 (t347 + 1))).f1) ≤ bt355.1 then (if bt355.2 ≤ ((rd_T42 t341 t347).f1) then (if (wrap64 (bt355.2 - bt355.1)) ≤ 1 then ((minecontrollaw07_awake.f k).bind fun t358 => (some t358)) else (none)) else (none)) else (none)))) else (none)) else (none))))) else (none)) else (none))) else ((minecontrollaw07_awake.f k).bind fun t346 => (some t346))) = some r := H
 have A5 := am A50
 clear A50
 by_cases c6 : t345 = 0
 ·
  rw [if_pos c6] at H
  have c6b0 : (t345 == 0) = true := beq_iff_eq.mpr c6
  have c6b1 : (t345 != 0) = false := bne_eq_false_iff_eq.mpr c6
  clear c6
  replace H := Option.bind_eq_some_iff.mp H
  obtain ⟨t347, A70, H⟩ := H
  replace H : (if 0 ≤ t347 then (if t347 < (t341.length : Int) then ((fan_Curve.f k t338 t339 t340 t341 ((rd_T42 t341 t347).f0)).bind fun bt350 => (if (!(bt350.1 == ((rd_T42 t341 t347).f1)) || (!(bt350.2 == ((rd_T42 t341 t347).f1)))) = true then (none) else (if (wrap64 (t347 + 1)) = (t341.length : Int) then ((minecontrollaw07_awake.f k).bind fun t352 => (some t352)) else (if 0 ≤ (wrap64 (t347 + 1)) then (if (wrap64 (t347 + 1)) < (t341.length : Int) then (if (wrap64 ((wrap64 (((rd_T42 t341 (wrap64 (t347 + 1))).f0) - ((rd_T42 t341 t347).f0))) + 1)) = 0 then (none) else ((fan_Curve.f k t338 t339 t340 t341 (wrap64 (((rd_T42 t341 t347).f0) + (Int.tmod (wrap64 (a2)) (wrap64 ((wrap64 (((rd_T42 t341 (wrap64 (t347 + 1))).f0) - ((rd_T42 t341 t347).f0))) + 1)))))).bind fun bt355 => (if ((rd_T42 t341 (wrap64 (t347 + 1))).f1) ≤ bt355.1 then (if bt355.2 ≤ ((rd_T42 t341 t347).f1) then (if (wrap64 (bt355.2 - bt355.1)) ≤ 1 then ((minecontrollaw07_awake.f k).bind fun t358 => (some t358)) else (none)) else (none)) else (none)))) else (none)) else (none))))) else (none)) else (none)) = some r := H
  have A7 := am A70
  clear A70
  by_cases c8 : 0 ≤ t347
  rotate_left
  · rw [if_neg c8] at H; exact absurd H (by simp)
  rw [if_pos c8] at H
  have c8b0 : decide (0 ≤ t347) = true := decide_eq_true c8
  clear c8
  by_cases c9 : t347 < (t341.length : Int)
  rotate_left
  · rw [if_neg c9] at H; exact absurd H (by simp)
  rw [if_pos c9] at H
  have c9b0 : decide (t347 < (t341.length : Int)) = true := decide_eq_true c9
  clear c9
  replace H := Option.bind_eq_some_iff.mp H
  obtain ⟨⟨t350, t351⟩, A100, H⟩ := H
  replace H : (if (!(t350 == ((rd_T42 t341 t347).f1)) || (!(t351 == ((rd_T42 t341 t347).f1)))) = true then (none) else (if (wrap64 (t347 + 1)) = (t341.length : Int) then ((minecontrollaw07_awake.f k).bind fun t352 => (some t352)) else (if 0 ≤ (wrap64 (t347 + 1)) then (if (wrap64 (t347 + 1)) < (t341.length : Int) then (if (wrap64 ((wrap64 (((rd_T42 t341 (wrap64 (t347 + 1))).f0) - ((rd_T42 t341 t347).f0))) + 1)) = 0 then (none) else ((fan_Curve.f k t338 t339 t340 t341 (wrap64 (((rd_T42 t341 t347).f0) + (Int.tmod (wrap64 (a2)) (wrap64 ((wrap64 (((rd_T42 t341 (wrap64 (t347 + 1))).f0) - ((rd_T42 t341 t347).f0))) + 1)))))).bind fun bt355 => (if ((rd_T42 t341 (wrap64 (t347 + 1))).f1) ≤ bt355.1 then (if bt355.2 ≤ ((rd_T42 t341 t347).f1) then (if (wrap64 (bt355.2 - bt355.1)) ≤ 1 then ((minecontrollaw07_awake.f k).bind fun t358 => (some t358)) else (none)) else (none)) else (none)))) else (none)) else (none)))) = some r := H
  have A10 := am A100
  clear A100
  by_cases c11 : (!(t350 == ((rd_T42 t341 t347).f1)) || (!(t351 == ((rd_T42 t341 t347).f1)))) = true
  · rw [if_pos c11] at H; exact absurd H (by simp)
  rw [if_neg c11] at H
  have c11b0 : (!(t350 == ((rd_T42 t341 t347).f1)) || (!(t351 == ((rd_T42 t341 t347).f1)))) = false := by simpa using c11
  clear c11
  by_cases c12 : (wrap64 (t347 + 1)) = (t341.length : Int)
  ·
   rw [if_pos c12] at H
   have c12b0 : ((wrap64 (t347 + 1)) == (t341.length : Int)) = true := beq_iff_eq.mpr c12
   have c12b1 : ((wrap64 (t347 + 1)) != (t341.length : Int)) = false := bne_eq_false_iff_eq.mpr c12
   clear c12
   replace H := Option.bind_eq_some_iff.mp H
   obtain ⟨t352, A130, H⟩ := H
   replace H : (some t352) = some r := H
   have A13 := am A130
   clear A130
   obtain rfl := Option.some.inj H
   go_enter Try.func8, Try.ntmps8
   try go_wp2_with (first | ((with_reducible refine gate_callee (f := 9) rfl ?_); refine goesL_ (some 13) rfl rfl Try.func9 (by kernel_rfl) rfl #[.slice A0 l0.length c0, .int .i64 0, .int .i64 0] rfl xv ?_; (with_reducible refine (minecontrollaw07_made.calls k _ _ l0 0 0 t338 t339 t340 t341 _ ?side1 ?side2 A4.out).mono ?_); (case side1 => exact xc HR0); (case side2 => exact HC0.out); rintro e w14 ⟨v342, rfl, ho0, hb⟩; refine ⟨_, rfl, ?_⟩; have n0_ := am (Kd.R_lower ho0 (below_size (xh HB))); have n1_ := am (below_step (xh HB) hb); clear HB; have HO343 := n0_; have HB := n1_; clear n0_ n1_; (try clear hb); (try clear hb2); (try clear hk); (try clear hi); (try clear ho0)) | ((with_reducible refine gate_dst (N := 7) rfl ?_); refine xbox 7 (cs := #[.int .i64 0, .bool false, .bool false, .slice none 0 0]) (t := 25) ?_; intro gb344 hg w15 hbox hb; have n0_ := am (Kd.R_below (xk HO343) hb); have n1_ := am (below_step (xh HB) hb); have n2_ := am (hbox); have n3_ := am (xs hg HB); have n4_ := am (xs hg HB); clear HO343; clear HB; have HO343 := n0_; have HB := n1_; have BK344 := n2_; have GW344 := n3_; have GE344 := n4_; clear n0_ n1_ n2_ n3_ n4_; clear hb hbox hg; have hcz16_0 : w15.cell? ⟨gb344, 0, none⟩ = some (.int .i64 0) := (blk_cell BK344.out 0).trans rfl; have hcz16_1 : w15.cell? ⟨gb344, 1, none⟩ = some (.bool false) := (blk_cell BK344.out 1).trans rfl; have hcz16_2 : w15.cell? ⟨gb344, 2, none⟩ = some (.bool false) := (blk_cell BK344.out 2).trans rfl; have hcz16_3 : w15.cell? ⟨gb344, 3, none⟩ = some (.slice none 0 0) := (blk_cell BK344.out 3).trans rfl; have hfz16_0 := blk_frozen BK344.out 0; have hfz16_1 := blk_frozen BK344.out 1; have hfz16_2 := blk_frozen BK344.out 2; have hfz16_3 := blk_frozen BK344.out 3; obtain ⟨Ao17, co17, eo17⟩ := Kd.R_slice HO343.out; subst eo17) | ((with_reducible refine gate_callee (f := 11) rfl ?_); refine goesL_ (some 15) rfl rfl Try.func11 (by kernel_rfl) rfl #[.agg #[.int .i64 t338, .bool t339, .bool t340, .slice Ao17 t341.length co17]] rfl xv ?_; (with_reducible refine (minecontrolref07_Check.calls k t338 t339 t340 _ _ t341 t345 _ ?side1 ?side2 A5.out).mono ?_); (case side1 => refine (Kd.R_reads' (e := 42) (base := w.heap.size) (ok := fun k_ => True) (n := t341.length) (c := co17) ?_).2.2; exact (by (with_reducible repeat (first | apply Kd.R_alloc | apply Kd.R_drewN | apply Kd.R_drew)); exact (Kd.R_mono (Kd.R_far (p := ⟨gb344, 3, none⟩) (Kd.R_far (p := ⟨gb344, 2, none⟩) (Kd.R_far (p := ⟨gb344, 1, none⟩) (Kd.R_far (p := ⟨gb344, 0, none⟩) (Kd.R_types HO343.out BK344.out (by decide)) (fun _ hk => hk.2) (.int .i64 t338)) (fun _ hk => hk.2) (.bool t339)) (fun _ hk => hk.2) (.bool t340)) (fun _ hk => hk.2) (.slice Ao17 t341.length co17)) (fun _ h_ => h_.1)))); (case side2 => exact (Kd.R_reads' HO343.out).2.1); rintro e w18 ⟨rfl, hb⟩; refine ⟨_, rfl, ?_⟩; have n0_ := am (Kd.R_below (by (with_reducible repeat (first | apply Kd.R_alloc | apply Kd.R_drewN | apply Kd.R_drew)); exact (Kd.R_mono (Kd.R_far (p := ⟨gb344, 3, none⟩) (Kd.R_far (p := ⟨gb344, 2, none⟩) (Kd.R_far (p := ⟨gb344, 1, none⟩) (Kd.R_far (p := ⟨gb344, 0, none⟩) (Kd.R_types HO343.out BK344.out (by decide)) (fun _ hk => hk.2) (.int .i64 t338)) (fun _ hk => hk.2) (.bool t339)) (fun _ hk => hk.2) (.bool t340)) (fun _ hk => hk.2) (.slice Ao17 t341.length co17)) (fun _ h_ => h_.1))) hb); have n1_ := am (blk_below (g := gb344) (o := .cells #[.int .i64 t338, .bool t339, .bool t340, .slice Ao17 t341.length co17] 25 (0, 0)) (by (with_reducible repeat (first | refine blk_drewN ?_ _ | refine blk_drew ?_ | refine blk_alloc ?_ _)); refine blk_put (cs := #[.int .i64 t338, .bool t339, .bool t340, .slice none 0 0]) ?_ 3 _ rfl; (with_reducible repeat (first | refine blk_drewN ?_ _ | refine blk_drew ?_ | refine blk_alloc ?_ _)); refine blk_put (cs := #[.int .i64 t338, .bool t339, .bool false, .slice none 0 0]) ?_ 2 _ rfl; (with_reducible repeat (first | refine blk_drewN ?_ _ | refine blk_drew ?_ | refine blk_alloc ?_ _)); refine blk_put (cs := #[.int .i64 t338, .bool false, .bool false, .slice none 0 0]) ?_ 1 _ rfl; (with_reducible repeat (first | refine blk_drewN ?_ _ | refine blk_drew ?_ | refine blk_alloc ?_ _)); refine blk_put (cs := #[.int .i64 0, .bool false, .bool false, .slice none 0 0]) ?_ 0 _ rfl; (with_reducible repeat (first | refine blk_drewN ?_ _ | refine blk_drew ?_ | refine blk_alloc ?_ _)); exact BK344.out) hb); have n2_ := am (below_step (xh HB) hb); clear HO343; clear BK344; clear HB; have HO343 := n0_; have BK344 := n1_; have HB := n2_; clear n0_ n1_ n2_; (try clear hb); (try clear hb2); (try clear hk); (try clear hi); have hcz19_0 : w18.cell? ⟨gb344, 0, none⟩ = some (.int .i64 t338) := (blk_cell BK344.out 0).trans rfl; have hcz19_1 : w18.cell? ⟨gb344, 1, none⟩ = some (.bool t339) := (blk_cell BK344.out 1).trans rfl; have hcz19_2 : w18.cell? ⟨gb344, 2, none⟩ = some (.bool t340) := (blk_cell BK344.out 2).trans rfl; have hcz19_3 : w18.cell? ⟨gb344, 3, none⟩ = some (.slice Ao17 t341.length co17) := (blk_cell BK344.out 3).trans rfl; have hfz19_0 := blk_frozen BK344.out 0; have hfz19_1 := blk_frozen BK344.out 1; have hfz19_2 := blk_frozen BK344.out 2; have hfz19_3 := blk_frozen BK344.out 3) | ((with_reducible refine gate_callee (f := 13) rfl ?_); refine goesL_ (some 22) rfl rfl Try.func13 (by kernel_rfl) rfl #[.int .i64 a1, .int .i64 (t341.length : Int)] rfl xv ?_; (with_reducible refine (minecontroldraw_Mod.calls a1 (t341.length : Int) t347 _ A7.out).mono ?_); rintro e w' ⟨rfl, ⟨nd, rfl⟩⟩; refine ⟨_, rfl, ?_⟩; have p348 : 0 ≤ (t347 : Int) := of_decide_eq_true xa; have q348 : t347 < (t341.length : Int) := of_decide_eq_true xa; obtain ⟨ad348, e348, hx348_0, hx348_1⟩ := at_T42 (Kd.R_reads' HO343.out).2.2 t347 p348 q348; cases e348; replace p348 := eq_true p348; replace q348 := eq_true q348) | ((with_reducible refine gate_dst (N := 9) rfl ?_); refine xbox 9 (cs := #[.int .i64 0, .int .i64 0]) (t := 42) ?_; intro gb349 hg w20 hbox hb; have n0_ := am (Kd.R_below (Kd.R_elderB (xk HO343) gb349 (Nat.le_of_eq hg.symm)) hb); have n1_ := am (xw BK344 hb); have n2_ := am (below_step (xh HB) hb); have n3_ := am (hbox); have n4_ := am (xs hg HB); have n5_ := am (xs hg HB); have n6_ := am (xnl hg BK344); have n7_ := am (xng hg BK344); clear HO343; clear BK344; clear HB; have HO343 := n0_; have BK344 := n1_; have HB := n2_; have BK349 := n3_; have GW349 := n4_; have GE349 := n5_; have NB344_349 := n6_; have NB349_344 := n7_; clear n0_ n1_ n2_ n3_ n4_ n5_ n6_ n7_; clear hb hbox hg; have hnb21 := NB349_344.out; have hnc21 := NB344_349.out; have hcz22_0 : w20.cell? ⟨gb349, 0, none⟩ = some (.int .i64 0) := (blk_cell BK349.out 0).trans rfl; have hcz22_1 : w20.cell? ⟨gb349, 1, none⟩ = some (.int .i64 0) := (blk_cell BK349.out 1).trans rfl; have hfz22_0 := blk_frozen BK349.out 0; have hfz22_1 := blk_frozen BK349.out 1))
   have n0_ : Aside0 (Kd.R k42 42 ((w20.setCell ⟨gb349, 0, none⟩ (.int .i64 ((rd_T42 t341 t347).f0))).setCell ⟨gb349, 1, none⟩ (.int .i64 ((rd_T42 t341 t347).f1))) w.heap.size (fun k_ => k_ ≠ gb349) (.slice (some ad348) t341.length co17) t341) := ⟨by (with_reducible repeat (first | apply Kd.R_alloc | apply Kd.R_drewN | apply Kd.R_drew)); exact Kd.R_mono (Kd.R_far (p := ⟨gb349, 1, none⟩) (Kd.R_far (p := ⟨gb349, 0, none⟩) (Kd.R_mono HO343.out (fun k_ hk => (⟨hk, hk.2⟩ : _ ∧ k_ ≠ gb349))) (fun _ hk => hk.2) (.int .i64 ((rd_T42 t341 t347).f0))) (fun _ hk => hk.2) (.int .i64 ((rd_T42 t341 t347).f1))) (fun _ hk => hk.1.2)⟩
   have n1_ : Aside0 (((w20.setCell ⟨gb349, 0, none⟩ (.int .i64 ((rd_T42 t341 t347).f0))).setCell ⟨gb349, 1, none⟩ (.int .i64 ((rd_T42 t341 t347).f1))).heap[gb344]? = some (.cells #[.int .i64 t338, .bool t339, .bool t340, .slice (some ad348) t341.length co17] 25 (0, 0))) := ⟨by (with_reducible repeat (first | refine blk_drewN ?_ _ | refine blk_drew ?_ | refine blk_alloc ?_ _)); refine blk_far ?_ NB344_349.out _; (with_reducible repeat (first | refine blk_drewN ?_ _ | refine blk_drew ?_ | refine blk_alloc ?_ _)); refine blk_far ?_ NB344_349.out _; (with_reducible repeat (first | refine blk_drewN ?_ _ | refine blk_drew ?_ | refine blk_alloc ?_ _)); exact BK344.out⟩
   have n2_ : Aside0 (((w20.setCell ⟨gb349, 0, none⟩ (.int .i64 ((rd_T42 t341 t347).f0))).setCell ⟨gb349, 1, none⟩ (.int .i64 ((rd_T42 t341 t347).f1))).heap[gb349]? = some (.cells #[.int .i64 ((rd_T42 t341 t347).f0), .int .i64 ((rd_T42 t341 t347).f1)] 42 (0, 0))) := ⟨by (with_reducible repeat (first | refine blk_drewN ?_ _ | refine blk_drew ?_ | refine blk_alloc ?_ _)); refine blk_put (cs := #[.int .i64 ((rd_T42 t341 t347).f0), .int .i64 0]) ?_ 1 _ rfl; (with_reducible repeat (first | refine blk_drewN ?_ _ | refine blk_drew ?_ | refine blk_alloc ?_ _)); refine blk_put (cs := #[.int .i64 0, .int .i64 0]) ?_ 0 _ rfl; (with_reducible repeat (first | refine blk_drewN ?_ _ | refine blk_drew ?_ | refine blk_alloc ?_ _)); exact BK349.out⟩
   have n3_ : Aside0 (Below w.heap.size w ((w20.setCell ⟨gb349, 0, none⟩ (.int .i64 ((rd_T42 t341 t347).f0))).setCell ⟨gb349, 1, none⟩ (.int .i64 ((rd_T42 t341 t347).f1)))) := ⟨xh HB⟩
   (try clear HO343)
   (try clear BK344)
   (try clear BK349)
   (try clear HB)
   generalize ((w20.setCell ⟨gb349, 0, none⟩ (.int .i64 ((rd_T42 t341 t347).f0))).setCell ⟨gb349, 1, none⟩ (.int .i64 ((rd_T42 t341 t347).f1))) = w23 at n0_ n1_ n2_ n3_ ⊢
   have HO343 := n0_
   have BK344 := n1_
   have BK349 := n2_
   have HB := n3_
   clear n0_ n1_ n2_ n3_
   have n0_ := am (Kd.R_drew HO343.out)
   have n1_ := am (blk_drew BK344.out)
   have n2_ := am (blk_drew BK349.out)
   have n3_ := am (below_drew1 HB.out)
   clear HO343
   clear BK344
   clear BK349
   clear HB
   have HO343 := n0_
   have BK344 := n1_
   have BK349 := n2_
   have HB := n3_
   clear n0_ n1_ n2_ n3_
   refine start_ (n := 10) (S := fun w' => w'.cell? ⟨gb344, 0, none⟩ = some (.int .i64 t338) ∧ w'.cell? ⟨gb344, 1, none⟩ = some (.bool t339) ∧ w'.cell? ⟨gb344, 2, none⟩ = some (.bool t340) ∧ w'.cell? ⟨gb344, 3, none⟩ = some (.slice (some ad348) t341.length co17) ∧ w'.cell? ⟨gb349, 0, none⟩ = some (.int .i64 ((rd_T42 t341 t347).f0)) ∧ w'.cell? ⟨gb349, 1, none⟩ = some (.int .i64 ((rd_T42 t341 t347).f1))) (ds := []) #[false, false, false, false, false, false, false, false, false, false] (by kernel_rfl) rfl rfl ⟨(blk_cell BK344.out 0).trans rfl, (blk_cell BK344.out 1).trans rfl, (blk_cell BK344.out 2).trans rfl, (blk_cell BK344.out 3).trans rfl, (blk_cell BK349.out 0).trans rfl, (blk_cell BK349.out 1).trans rfl⟩ (fun hHeld => ?_); refine with_tabW minecontrollaw07_FanPoints.tab6 minecontrollaw07_FanPoints.bits6 (fun HT_ HW_ => ?_)
   generalize w23.drew = w24 at HO343 BK344 BK349 HB hHeld ⊢
   refine pure_ (i := 1) (N := some 29) (v := ?_) (a' := ?_) #[false, true, false, false, false, false, false, false, false, false] rfl rfl (any_of HT_.out (by kernel_rfl)) (fun _ _ _ h => h) (Or.inl ⟨by rfl, ?_⟩) ?_ ?_
   rotate_left
   ·
    intro w'
    go_simp
    with_reducible rfl
   rotate_left
   ·
    simp only [Act.put, List.setIfInBounds_toArray, List.set_cons_zero, List.set_cons_succ, i64_w, i32_w]
    rfl
   refine pure_ (i := 4) (N := some 32) (v := ?_) (a' := ?_) #[false, true, false, false, true, false, false, false, false, false] rfl rfl (any_of HT_.out (by kernel_rfl)) (fun _ _ _ h => h) (Or.inl ⟨by rfl, ?_⟩) ?_ ?_
   rotate_left
   ·
    intro w'
    go_simp
    with_reducible rfl
   rotate_left
   ·
    simp only [Act.put, List.setIfInBounds_toArray, List.set_cons_zero, List.set_cons_succ, i64_w, i32_w]
    rfl
   refine pure_ (i := 6) (N := some 34) (v := ?_) (a' := ?_) #[false, true, false, false, true, false, true, false, false, false] rfl rfl (any_of HT_.out (by kernel_rfl)) (fun _ _ _ h => h) (Or.inl ⟨by rfl, ?_⟩) ?_ ?_
   rotate_left
   ·
    intro w'
    go_simp
    with_reducible rfl
   rotate_left
   ·
    simp only [Act.put, List.setIfInBounds_toArray, List.set_cons_zero, List.set_cons_succ, i64_w, i32_w]
    rfl
   refine take_ (i := 0) (N := some 28) (v := ?_) (a' := ?_) #[true, true, false, false, true, false, true, false, false, false] rfl rfl (take_ofW HT_.out HW_.out (by kernel_rfl)) (fun _ _ _ h => h) (Or.inl ⟨by rfl, ?_⟩) hHeld ?_ ?_
   rotate_left
   ·
    rintro w' ⟨s0, s1, s2, s3, s4, s5⟩
    go_simp
    with_reducible rfl
   rotate_left
   ·
    simp only [Act.put, List.setIfInBounds_toArray, List.set_cons_zero, List.set_cons_succ, i64_w, i32_w]
    rfl
   refine take_ (i := 2) (N := some 30) (v := ?_) (a' := ?_) #[true, true, true, false, true, false, true, false, false, false] rfl rfl (take_ofW HT_.out HW_.out (by kernel_rfl)) (fun _ _ _ h => h) (Or.inl ⟨by rfl, ?_⟩) hHeld ?_ ?_
   rotate_left
   ·
    rintro w' ⟨s0, s1, s2, s3, s4, s5⟩
    go_simp
    with_reducible rfl
   rotate_left
   ·
    simp only [Act.put, List.setIfInBounds_toArray, List.set_cons_zero, List.set_cons_succ, i64_w, i32_w]
    rfl
   refine take_ (i := 5) (N := some 33) (v := ?_) (a' := ?_) #[true, true, true, false, true, true, true, false, false, false] rfl rfl (take_ofW HT_.out HW_.out (by kernel_rfl)) (fun _ _ _ h => h) (Or.inl ⟨by rfl, ?_⟩) hHeld ?_ ?_
   rotate_left
   ·
    rintro w' ⟨s0, s1, s2, s3, s4, s5⟩
    go_simp
    with_reducible rfl
   rotate_left
   ·
    simp only [Act.put, List.setIfInBounds_toArray, List.set_cons_zero, List.set_cons_succ, i64_w, i32_w]
    rfl
   refine take_ (i := 7) (N := some 35) (v := ?_) (a' := ?_) #[true, true, true, false, true, true, true, true, false, false] rfl rfl (take_ofW HT_.out HW_.out (by kernel_rfl)) (fun _ _ _ h => h) (Or.inl ⟨by rfl, ?_⟩) hHeld ?_ ?_
   rotate_left
   ·
    rintro w' ⟨s0, s1, s2, s3, s4, s5⟩
    go_simp
    with_reducible rfl
   rotate_left
   ·
    simp only [Act.put, List.setIfInBounds_toArray, List.set_cons_zero, List.set_cons_succ, i64_w, i32_w]
    rfl
   refine pure_ (i := 8) (N := some 36) (v := ?_) (a' := ?_) #[true, true, true, false, true, true, true, true, true, false] rfl rfl (any_of HT_.out (by kernel_rfl)) (fun _ _ _ h => h) (Or.inl ⟨by rfl, ?_⟩) ?_ ?_
   rotate_left
   ·
    intro w'
    go_simp
    with_reducible rfl
   rotate_left
   ·
    simp only [Act.put, List.setIfInBounds_toArray, List.set_cons_zero, List.set_cons_succ, i64_w, i32_w]
    rfl
   refine one_ (i := 3) (N := some 31) #[true, true, true, true, true, true, true, true, true, false] rfl rfl (one_of HT_.out (by kernel_rfl)) (by decide) (fun K hK => ?_)
   refine goes_ Try.func14 (by kernel_rfl) rfl #[.agg #[.int .i64 t338, .bool t339, .bool t340, .slice (some ad348) t341.length co17], .int .i64 ((rd_T42 t341 t347).f0)] (by rfl) rfl rfl xv ?_
   with_reducible refine (fan_Curve.calls k t338 t339 t340 _ _ t341 ((rd_T42 t341 t347).f0) t350 t351 _ ?side1 ?side2 A10.out).mono ?_
   (case side1 => repeat (first | exact (Kd.R_reads' HO343.out).2.2 | (with_reducible refine Kd.C_alloc ?_ _) | (with_reducible refine Kd.C_drewN ?_ _) | (with_reducible refine Kd.C_drew ?_)))
   (case side2 => exact (Kd.R_reads' HO343.out).2.1)
   rintro e w25 ⟨rfl, hb⟩
   refine ⟨_, rfl, ?_⟩
   have n0_ := am (Kd.R_below (xk HO343) hb)
   have n1_ := am (xw BK344 hb)
   have n2_ := am (xw BK349 hb)
   have n3_ := am (below_step (xh HB) hb)
   clear HO343
   clear BK344
   clear BK349
   clear HB
   have HO343 := n0_
   have BK344 := n1_
   have BK349 := n2_
   have HB := n3_
   clear n0_ n1_ n2_ n3_
   (try clear hb)
   (try clear hb2)
   (try clear hk)
   (try clear hi)
   refine hK.out _ _ ⟨(blk_cell BK344.out 0).trans rfl, (blk_cell BK344.out 1).trans rfl, (blk_cell BK344.out 2).trans rfl, (blk_cell BK344.out 3).trans rfl, (blk_cell BK349.out 0).trans rfl, (blk_cell BK349.out 1).trans rfl⟩ (fun hHeld => ?_)
   clear hK K
   refine norm_ (a' := ?_) ?_ ?_
   rotate_left
   ·
    show Act.put _ (some 31) _ = _
    simp only [Act.put, List.setIfInBounds_toArray, List.set_cons_zero, List.set_cons_succ, i64_w, i32_w]
    rfl
   refine pure_ (i := 9) (N := some 37) (v := ?_) (a' := ?_) #[true, true, true, true, true, true, true, true, true, true] rfl rfl (any_of HT_.out (by kernel_rfl)) (fun _ _ _ h => h) (Or.inl ⟨by rfl, ?_⟩) ?_ ?_
   rotate_left
   ·
    intro w'
    go_simp
    with_reducible rfl
   rotate_left
   ·
    simp only [Act.put, List.setIfInBounds_toArray, List.set_cons_zero, List.set_cons_succ, i64_w, i32_w]
    rfl
   refine done_ (done_of HT_.out (by kernel_rfl)) ?_
   have hcz26_0 : w25.cell? ⟨gb344, 0, none⟩ = some (.int .i64 t338) := (blk_cell BK344.out 0).trans rfl
   have hcz26_1 : w25.cell? ⟨gb344, 1, none⟩ = some (.bool t339) := (blk_cell BK344.out 1).trans rfl
   have hcz26_2 : w25.cell? ⟨gb344, 2, none⟩ = some (.bool t340) := (blk_cell BK344.out 2).trans rfl
   have hcz26_3 : w25.cell? ⟨gb344, 3, none⟩ = some (.slice (some ad348) t341.length co17) := (blk_cell BK344.out 3).trans rfl
   have hfz26_0 := blk_frozen BK344.out 0
   have hfz26_1 := blk_frozen BK344.out 1
   have hfz26_2 := blk_frozen BK344.out 2
   have hfz26_3 := blk_frozen BK344.out 3
   try go_wp2_with (first | ((with_reducible refine gate_callee (f := 12) rfl ?_); refine goesL_ (some 44) rfl rfl Try.func12 (by kernel_rfl) rfl #[] rfl xv ?_; (with_reducible refine (minecontrollaw07_awake.calls k  t352 _ A13.out).mono ?_); rintro e w27 ⟨rfl, hb⟩; refine ⟨_, rfl, ?_⟩; have n0_ := am (Kd.R_below (xk HO343) hb); have n1_ := am (xw BK344 hb); have n2_ := am (xw BK349 hb); have n3_ := am (below_step (xh HB) hb); clear HO343; clear BK344; clear BK349; clear HB; have HO343 := n0_; have BK344 := n1_; have BK349 := n2_; have HB := n3_; clear n0_ n1_ n2_ n3_; (try clear hb); (try clear hb2); (try clear hk); (try clear hi)))
   go_ret
   exact ⟨by first | rfl | (simp [errW_none, errW_some] <;> rfl) | (simp [*, errW_none, errW_some] <;> rfl), xh HB⟩
  ·
   rw [if_neg c12] at H
   have c12b0 : ((wrap64 (t347 + 1)) == (t341.length : Int)) = false := beq_eq_false_iff_ne.mpr c12
   have c12b1 : ((wrap64 (t347 + 1)) != (t341.length : Int)) = true := bne_iff_ne.mpr c12
   obtain ⟨ji28, hji28⟩ : ∃ j_ : Int, (wrap64 (t347 + 1)) = j_ := ⟨_, rfl⟩
   replace H : (if 0 ≤ (ji28) then (if (ji28) < (t341.length : Int) then (if (wrap64 ((wrap64 (((rd_T42 t341 (ji28)).f0) - ((rd_T42 t341 t347).f0))) + 1)) = 0 then (none) else ((fan_Curve.f k t338 t339 t340 t341 (wrap64 (((rd_T42 t341 t347).f0) + (Int.tmod (wrap64 (a2)) (wrap64 ((wrap64 (((rd_T42 t341 (ji28)).f0) - ((rd_T42 t341 t347).f0))) + 1)))))).bind fun bt355 => (if ((rd_T42 t341 (ji28)).f1) ≤ bt355.1 then (if bt355.2 ≤ ((rd_T42 t341 t347).f1) then (if (wrap64 (bt355.2 - bt355.1)) ≤ 1 then ((minecontrollaw07_awake.f k).bind fun t358 => (some t358)) else (none)) else (none)) else (none)))) else (none)) else (none)) = some r := by first | (rw [hji28] at H; exact H) | (simp only [hji28] at H ⊢; exact H)
   (try rw [hji28] at c12b0)
   (try rw [hji28] at c12b1)
   (try rw [hji28] at A4)
   (try rw [hji28] at A5)
   (try rw [hji28] at A7)
   (try rw [hji28] at A10)
   have hji28w : (IntKind.i64.wrap (t347 + 1)) = ji28 := (i64_w _).trans hji28
   by_cases c29 : 0 ≤ (ji28)
   rotate_left
   · rw [if_neg c29] at H; exact absurd H (by simp)
   rw [if_pos c29] at H
   have c29b0 : decide (0 ≤ (ji28)) = true := decide_eq_true c29
   clear c29
   by_cases c30 : (ji28) < (t341.length : Int)
   rotate_left
   · rw [if_neg c30] at H; exact absurd H (by simp)
   rw [if_pos c30] at H
   have c30b0 : decide ((ji28) < (t341.length : Int)) = true := decide_eq_true c30
   clear c30
   by_cases c31 : (wrap64 ((wrap64 (((rd_T42 t341 (ji28)).f0) - ((rd_T42 t341 t347).f0))) + 1)) = 0
   · rw [if_pos c31] at H; exact absurd H (by simp)
   rw [if_neg c31] at H
   have c31b0 : ((wrap64 ((wrap64 (((rd_T42 t341 (ji28)).f0) - ((rd_T42 t341 t347).f0))) + 1)) == 0) = false := beq_eq_false_iff_ne.mpr c31
   have c31b1 : ((wrap64 ((wrap64 (((rd_T42 t341 (ji28)).f0) - ((rd_T42 t341 t347).f0))) + 1)) != 0) = true := bne_iff_ne.mpr c31
   replace H := Option.bind_eq_some_iff.mp H
   obtain ⟨⟨t355, t356⟩, A320, H⟩ := H
   replace H : (if ((rd_T42 t341 (ji28)).f1) ≤ t355 then (if t356 ≤ ((rd_T42 t341 t347).f1) then (if (wrap64 (t356 - t355)) ≤ 1 then ((minecontrollaw07_awake.f k).bind fun t358 => (some t358)) else (none)) else (none)) else (none)) = some r := H
   have A32 := am A320
   clear A320
   by_cases c33 : ((rd_T42 t341 (ji28)).f1) ≤ t355
   rotate_left
   · rw [if_neg c33] at H; exact absurd H (by simp)
   rw [if_pos c33] at H
   have c33b0 : decide (((rd_T42 t341 (ji28)).f1) ≤ t355) = true := decide_eq_true c33
   clear c33
   by_cases c34 : t356 ≤ ((rd_T42 t341 t347).f1)
   rotate_left
   · rw [if_neg c34] at H; exact absurd H (by simp)
   rw [if_pos c34] at H
   have c34b0 : decide (t356 ≤ ((rd_T42 t341 t347).f1)) = true := decide_eq_true c34
   clear c34
   by_cases c35 : (wrap64 (t356 - t355)) ≤ 1
   rotate_left
   · rw [if_neg c35] at H; exact absurd H (by simp)
   rw [if_pos c35] at H
   have c35b0 : decide ((wrap64 (t356 - t355)) ≤ 1) = true := decide_eq_true c35
   clear c35
   replace H := Option.bind_eq_some_iff.mp H
   obtain ⟨t358, A360, H⟩ := H
   replace H : (some t358) = some r := H
   have A36 := am A360
   clear A360
   obtain rfl := Option.some.inj H
   go_enter Try.func8, Try.ntmps8
   try go_wp2_with (first | ((with_reducible refine gate_callee (f := 9) rfl ?_); refine goesL_ (some 13) rfl rfl Try.func9 (by kernel_rfl) rfl #[.slice A0 l0.length c0, .int .i64 0, .int .i64 0] rfl xv ?_; (with_reducible refine (minecontrollaw07_made.calls k _ _ l0 0 0 t338 t339 t340 t341 _ ?side1 ?side2 A4.out).mono ?_); (case side1 => exact xc HR0); (case side2 => exact HC0.out); rintro e w37 ⟨v342, rfl, ho0, hb⟩; refine ⟨_, rfl, ?_⟩; have n0_ := am (Kd.R_lower ho0 (below_size (xh HB))); have n1_ := am (below_step (xh HB) hb); clear HB; have HO343 := n0_; have HB := n1_; clear n0_ n1_; (try clear hb); (try clear hb2); (try clear hk); (try clear hi); (try clear ho0)) | ((with_reducible refine gate_dst (N := 7) rfl ?_); refine xbox 7 (cs := #[.int .i64 0, .bool false, .bool false, .slice none 0 0]) (t := 25) ?_; intro gb344 hg w38 hbox hb; have n0_ := am (Kd.R_below (xk HO343) hb); have n1_ := am (below_step (xh HB) hb); have n2_ := am (hbox); have n3_ := am (xs hg HB); have n4_ := am (xs hg HB); clear HO343; clear HB; have HO343 := n0_; have HB := n1_; have BK344 := n2_; have GW344 := n3_; have GE344 := n4_; clear n0_ n1_ n2_ n3_ n4_; clear hb hbox hg; have hcz39_0 : w38.cell? ⟨gb344, 0, none⟩ = some (.int .i64 0) := (blk_cell BK344.out 0).trans rfl; have hcz39_1 : w38.cell? ⟨gb344, 1, none⟩ = some (.bool false) := (blk_cell BK344.out 1).trans rfl; have hcz39_2 : w38.cell? ⟨gb344, 2, none⟩ = some (.bool false) := (blk_cell BK344.out 2).trans rfl; have hcz39_3 : w38.cell? ⟨gb344, 3, none⟩ = some (.slice none 0 0) := (blk_cell BK344.out 3).trans rfl; have hfz39_0 := blk_frozen BK344.out 0; have hfz39_1 := blk_frozen BK344.out 1; have hfz39_2 := blk_frozen BK344.out 2; have hfz39_3 := blk_frozen BK344.out 3; obtain ⟨Ao40, co40, eo40⟩ := Kd.R_slice HO343.out; subst eo40) | ((with_reducible refine gate_callee (f := 11) rfl ?_); refine goesL_ (some 15) rfl rfl Try.func11 (by kernel_rfl) rfl #[.agg #[.int .i64 t338, .bool t339, .bool t340, .slice Ao40 t341.length co40]] rfl xv ?_; (with_reducible refine (minecontrolref07_Check.calls k t338 t339 t340 _ _ t341 t345 _ ?side1 ?side2 A5.out).mono ?_); (case side1 => refine (Kd.R_reads' (e := 42) (base := w.heap.size) (ok := fun k_ => True) (n := t341.length) (c := co40) ?_).2.2; exact (by (with_reducible repeat (first | apply Kd.R_alloc | apply Kd.R_drewN | apply Kd.R_drew)); exact (Kd.R_mono (Kd.R_far (p := ⟨gb344, 3, none⟩) (Kd.R_far (p := ⟨gb344, 2, none⟩) (Kd.R_far (p := ⟨gb344, 1, none⟩) (Kd.R_far (p := ⟨gb344, 0, none⟩) (Kd.R_types HO343.out BK344.out (by decide)) (fun _ hk => hk.2) (.int .i64 t338)) (fun _ hk => hk.2) (.bool t339)) (fun _ hk => hk.2) (.bool t340)) (fun _ hk => hk.2) (.slice Ao40 t341.length co40)) (fun _ h_ => h_.1)))); (case side2 => exact (Kd.R_reads' HO343.out).2.1); rintro e w41 ⟨rfl, hb⟩; refine ⟨_, rfl, ?_⟩; have n0_ := am (Kd.R_below (by (with_reducible repeat (first | apply Kd.R_alloc | apply Kd.R_drewN | apply Kd.R_drew)); exact (Kd.R_mono (Kd.R_far (p := ⟨gb344, 3, none⟩) (Kd.R_far (p := ⟨gb344, 2, none⟩) (Kd.R_far (p := ⟨gb344, 1, none⟩) (Kd.R_far (p := ⟨gb344, 0, none⟩) (Kd.R_types HO343.out BK344.out (by decide)) (fun _ hk => hk.2) (.int .i64 t338)) (fun _ hk => hk.2) (.bool t339)) (fun _ hk => hk.2) (.bool t340)) (fun _ hk => hk.2) (.slice Ao40 t341.length co40)) (fun _ h_ => h_.1))) hb); have n1_ := am (blk_below (g := gb344) (o := .cells #[.int .i64 t338, .bool t339, .bool t340, .slice Ao40 t341.length co40] 25 (0, 0)) (by (with_reducible repeat (first | refine blk_drewN ?_ _ | refine blk_drew ?_ | refine blk_alloc ?_ _)); refine blk_put (cs := #[.int .i64 t338, .bool t339, .bool t340, .slice none 0 0]) ?_ 3 _ rfl; (with_reducible repeat (first | refine blk_drewN ?_ _ | refine blk_drew ?_ | refine blk_alloc ?_ _)); refine blk_put (cs := #[.int .i64 t338, .bool t339, .bool false, .slice none 0 0]) ?_ 2 _ rfl; (with_reducible repeat (first | refine blk_drewN ?_ _ | refine blk_drew ?_ | refine blk_alloc ?_ _)); refine blk_put (cs := #[.int .i64 t338, .bool false, .bool false, .slice none 0 0]) ?_ 1 _ rfl; (with_reducible repeat (first | refine blk_drewN ?_ _ | refine blk_drew ?_ | refine blk_alloc ?_ _)); refine blk_put (cs := #[.int .i64 0, .bool false, .bool false, .slice none 0 0]) ?_ 0 _ rfl; (with_reducible repeat (first | refine blk_drewN ?_ _ | refine blk_drew ?_ | refine blk_alloc ?_ _)); exact BK344.out) hb); have n2_ := am (below_step (xh HB) hb); clear HO343; clear BK344; clear HB; have HO343 := n0_; have BK344 := n1_; have HB := n2_; clear n0_ n1_ n2_; (try clear hb); (try clear hb2); (try clear hk); (try clear hi); have hcz42_0 : w41.cell? ⟨gb344, 0, none⟩ = some (.int .i64 t338) := (blk_cell BK344.out 0).trans rfl; have hcz42_1 : w41.cell? ⟨gb344, 1, none⟩ = some (.bool t339) := (blk_cell BK344.out 1).trans rfl; have hcz42_2 : w41.cell? ⟨gb344, 2, none⟩ = some (.bool t340) := (blk_cell BK344.out 2).trans rfl; have hcz42_3 : w41.cell? ⟨gb344, 3, none⟩ = some (.slice Ao40 t341.length co40) := (blk_cell BK344.out 3).trans rfl; have hfz42_0 := blk_frozen BK344.out 0; have hfz42_1 := blk_frozen BK344.out 1; have hfz42_2 := blk_frozen BK344.out 2; have hfz42_3 := blk_frozen BK344.out 3) | ((with_reducible refine gate_callee (f := 13) rfl ?_); refine goesL_ (some 22) rfl rfl Try.func13 (by kernel_rfl) rfl #[.int .i64 a1, .int .i64 (t341.length : Int)] rfl xv ?_; (with_reducible refine (minecontroldraw_Mod.calls a1 (t341.length : Int) t347 _ A7.out).mono ?_); rintro e w' ⟨rfl, ⟨nd, rfl⟩⟩; refine ⟨_, rfl, ?_⟩; have p348 : 0 ≤ (t347 : Int) := of_decide_eq_true xa; have q348 : t347 < (t341.length : Int) := of_decide_eq_true xa; obtain ⟨ad348, e348, hx348_0, hx348_1⟩ := at_T42 (Kd.R_reads' HO343.out).2.2 t347 p348 q348; cases e348; replace p348 := eq_true p348; replace q348 := eq_true q348) | ((with_reducible refine gate_dst (N := 9) rfl ?_); refine xbox 9 (cs := #[.int .i64 0, .int .i64 0]) (t := 42) ?_; intro gb349 hg w43 hbox hb; have n0_ := am (Kd.R_below (Kd.R_elderB (xk HO343) gb349 (Nat.le_of_eq hg.symm)) hb); have n1_ := am (xw BK344 hb); have n2_ := am (below_step (xh HB) hb); have n3_ := am (hbox); have n4_ := am (xs hg HB); have n5_ := am (xs hg HB); have n6_ := am (xnl hg BK344); have n7_ := am (xng hg BK344); clear HO343; clear BK344; clear HB; have HO343 := n0_; have BK344 := n1_; have HB := n2_; have BK349 := n3_; have GW349 := n4_; have GE349 := n5_; have NB344_349 := n6_; have NB349_344 := n7_; clear n0_ n1_ n2_ n3_ n4_ n5_ n6_ n7_; clear hb hbox hg; have hnb44 := NB349_344.out; have hnc44 := NB344_349.out; have hcz45_0 : w43.cell? ⟨gb349, 0, none⟩ = some (.int .i64 0) := (blk_cell BK349.out 0).trans rfl; have hcz45_1 : w43.cell? ⟨gb349, 1, none⟩ = some (.int .i64 0) := (blk_cell BK349.out 1).trans rfl; have hfz45_0 := blk_frozen BK349.out 0; have hfz45_1 := blk_frozen BK349.out 1))
   have n0_ : Aside0 (Kd.R k42 42 ((w43.setCell ⟨gb349, 0, none⟩ (.int .i64 ((rd_T42 t341 t347).f0))).setCell ⟨gb349, 1, none⟩ (.int .i64 ((rd_T42 t341 t347).f1))) w.heap.size (fun k_ => k_ ≠ gb349) (.slice (some ad348) t341.length co40) t341) := ⟨by (with_reducible repeat (first | apply Kd.R_alloc | apply Kd.R_drewN | apply Kd.R_drew)); exact Kd.R_mono (Kd.R_far (p := ⟨gb349, 1, none⟩) (Kd.R_far (p := ⟨gb349, 0, none⟩) (Kd.R_mono HO343.out (fun k_ hk => (⟨hk, hk.2⟩ : _ ∧ k_ ≠ gb349))) (fun _ hk => hk.2) (.int .i64 ((rd_T42 t341 t347).f0))) (fun _ hk => hk.2) (.int .i64 ((rd_T42 t341 t347).f1))) (fun _ hk => hk.1.2)⟩
   have n1_ : Aside0 (((w43.setCell ⟨gb349, 0, none⟩ (.int .i64 ((rd_T42 t341 t347).f0))).setCell ⟨gb349, 1, none⟩ (.int .i64 ((rd_T42 t341 t347).f1))).heap[gb344]? = some (.cells #[.int .i64 t338, .bool t339, .bool t340, .slice (some ad348) t341.length co40] 25 (0, 0))) := ⟨by (with_reducible repeat (first | refine blk_drewN ?_ _ | refine blk_drew ?_ | refine blk_alloc ?_ _)); refine blk_far ?_ NB344_349.out _; (with_reducible repeat (first | refine blk_drewN ?_ _ | refine blk_drew ?_ | refine blk_alloc ?_ _)); refine blk_far ?_ NB344_349.out _; (with_reducible repeat (first | refine blk_drewN ?_ _ | refine blk_drew ?_ | refine blk_alloc ?_ _)); exact BK344.out⟩
   have n2_ : Aside0 (((w43.setCell ⟨gb349, 0, none⟩ (.int .i64 ((rd_T42 t341 t347).f0))).setCell ⟨gb349, 1, none⟩ (.int .i64 ((rd_T42 t341 t347).f1))).heap[gb349]? = some (.cells #[.int .i64 ((rd_T42 t341 t347).f0), .int .i64 ((rd_T42 t341 t347).f1)] 42 (0, 0))) := ⟨by (with_reducible repeat (first | refine blk_drewN ?_ _ | refine blk_drew ?_ | refine blk_alloc ?_ _)); refine blk_put (cs := #[.int .i64 ((rd_T42 t341 t347).f0), .int .i64 0]) ?_ 1 _ rfl; (with_reducible repeat (first | refine blk_drewN ?_ _ | refine blk_drew ?_ | refine blk_alloc ?_ _)); refine blk_put (cs := #[.int .i64 0, .int .i64 0]) ?_ 0 _ rfl; (with_reducible repeat (first | refine blk_drewN ?_ _ | refine blk_drew ?_ | refine blk_alloc ?_ _)); exact BK349.out⟩
   have n3_ : Aside0 (Below w.heap.size w ((w43.setCell ⟨gb349, 0, none⟩ (.int .i64 ((rd_T42 t341 t347).f0))).setCell ⟨gb349, 1, none⟩ (.int .i64 ((rd_T42 t341 t347).f1)))) := ⟨xh HB⟩
   (try clear HO343)
   (try clear BK344)
   (try clear BK349)
   (try clear HB)
   generalize ((w43.setCell ⟨gb349, 0, none⟩ (.int .i64 ((rd_T42 t341 t347).f0))).setCell ⟨gb349, 1, none⟩ (.int .i64 ((rd_T42 t341 t347).f1))) = w46 at n0_ n1_ n2_ n3_ ⊢
   have HO343 := n0_
   have BK344 := n1_
   have BK349 := n2_
   have HB := n3_
   clear n0_ n1_ n2_ n3_
   have n0_ := am (Kd.R_drew HO343.out)
   have n1_ := am (blk_drew BK344.out)
   have n2_ := am (blk_drew BK349.out)
   have n3_ := am (below_drew1 HB.out)
   clear HO343
   clear BK344
   clear BK349
   clear HB
   have HO343 := n0_
   have BK344 := n1_
   have BK349 := n2_
   have HB := n3_
   clear n0_ n1_ n2_ n3_
   refine start_ (n := 10) (S := fun w' => w'.cell? ⟨gb344, 0, none⟩ = some (.int .i64 t338) ∧ w'.cell? ⟨gb344, 1, none⟩ = some (.bool t339) ∧ w'.cell? ⟨gb344, 2, none⟩ = some (.bool t340) ∧ w'.cell? ⟨gb344, 3, none⟩ = some (.slice (some ad348) t341.length co40) ∧ w'.cell? ⟨gb349, 0, none⟩ = some (.int .i64 ((rd_T42 t341 t347).f0)) ∧ w'.cell? ⟨gb349, 1, none⟩ = some (.int .i64 ((rd_T42 t341 t347).f1))) (ds := []) #[false, false, false, false, false, false, false, false, false, false] (by kernel_rfl) rfl rfl ⟨(blk_cell BK344.out 0).trans rfl, (blk_cell BK344.out 1).trans rfl, (blk_cell BK344.out 2).trans rfl, (blk_cell BK344.out 3).trans rfl, (blk_cell BK349.out 0).trans rfl, (blk_cell BK349.out 1).trans rfl⟩ (fun hHeld => ?_); refine with_tabW minecontrollaw07_FanPoints.tab6 minecontrollaw07_FanPoints.bits6 (fun HT_ HW_ => ?_)
   generalize w46.drew = w47 at HO343 BK344 BK349 HB hHeld ⊢
   refine pure_ (i := 1) (N := some 29) (v := ?_) (a' := ?_) #[false, true, false, false, false, false, false, false, false, false] rfl rfl (any_of HT_.out (by kernel_rfl)) (fun _ _ _ h => h) (Or.inl ⟨by rfl, ?_⟩) ?_ ?_
   rotate_left
   ·
    intro w'
    go_simp
    with_reducible rfl
   rotate_left
   ·
    simp only [Act.put, List.setIfInBounds_toArray, List.set_cons_zero, List.set_cons_succ, i64_w, i32_w]
    rfl
   refine pure_ (i := 4) (N := some 32) (v := ?_) (a' := ?_) #[false, true, false, false, true, false, false, false, false, false] rfl rfl (any_of HT_.out (by kernel_rfl)) (fun _ _ _ h => h) (Or.inl ⟨by rfl, ?_⟩) ?_ ?_
   rotate_left
   ·
    intro w'
    go_simp
    with_reducible rfl
   rotate_left
   ·
    simp only [Act.put, List.setIfInBounds_toArray, List.set_cons_zero, List.set_cons_succ, i64_w, i32_w]
    rfl
   refine pure_ (i := 6) (N := some 34) (v := ?_) (a' := ?_) #[false, true, false, false, true, false, true, false, false, false] rfl rfl (any_of HT_.out (by kernel_rfl)) (fun _ _ _ h => h) (Or.inl ⟨by rfl, ?_⟩) ?_ ?_
   rotate_left
   ·
    intro w'
    go_simp
    with_reducible rfl
   rotate_left
   ·
    simp only [Act.put, List.setIfInBounds_toArray, List.set_cons_zero, List.set_cons_succ, i64_w, i32_w]
    rfl
   refine take_ (i := 0) (N := some 28) (v := ?_) (a' := ?_) #[true, true, false, false, true, false, true, false, false, false] rfl rfl (take_ofW HT_.out HW_.out (by kernel_rfl)) (fun _ _ _ h => h) (Or.inl ⟨by rfl, ?_⟩) hHeld ?_ ?_
   rotate_left
   ·
    rintro w' ⟨s0, s1, s2, s3, s4, s5⟩
    go_simp
    with_reducible rfl
   rotate_left
   ·
    simp only [Act.put, List.setIfInBounds_toArray, List.set_cons_zero, List.set_cons_succ, i64_w, i32_w]
    rfl
   refine take_ (i := 2) (N := some 30) (v := ?_) (a' := ?_) #[true, true, true, false, true, false, true, false, false, false] rfl rfl (take_ofW HT_.out HW_.out (by kernel_rfl)) (fun _ _ _ h => h) (Or.inl ⟨by rfl, ?_⟩) hHeld ?_ ?_
   rotate_left
   ·
    rintro w' ⟨s0, s1, s2, s3, s4, s5⟩
    go_simp
    with_reducible rfl
   rotate_left
   ·
    simp only [Act.put, List.setIfInBounds_toArray, List.set_cons_zero, List.set_cons_succ, i64_w, i32_w]
    rfl
   refine take_ (i := 5) (N := some 33) (v := ?_) (a' := ?_) #[true, true, true, false, true, true, true, false, false, false] rfl rfl (take_ofW HT_.out HW_.out (by kernel_rfl)) (fun _ _ _ h => h) (Or.inl ⟨by rfl, ?_⟩) hHeld ?_ ?_
   rotate_left
   ·
    rintro w' ⟨s0, s1, s2, s3, s4, s5⟩
    go_simp
    with_reducible rfl
   rotate_left
   ·
    simp only [Act.put, List.setIfInBounds_toArray, List.set_cons_zero, List.set_cons_succ, i64_w, i32_w]
    rfl
   refine take_ (i := 7) (N := some 35) (v := ?_) (a' := ?_) #[true, true, true, false, true, true, true, true, false, false] rfl rfl (take_ofW HT_.out HW_.out (by kernel_rfl)) (fun _ _ _ h => h) (Or.inl ⟨by rfl, ?_⟩) hHeld ?_ ?_
   rotate_left
   ·
    rintro w' ⟨s0, s1, s2, s3, s4, s5⟩
    go_simp
    with_reducible rfl
   rotate_left
   ·
    simp only [Act.put, List.setIfInBounds_toArray, List.set_cons_zero, List.set_cons_succ, i64_w, i32_w]
    rfl
   refine pure_ (i := 8) (N := some 36) (v := ?_) (a' := ?_) #[true, true, true, false, true, true, true, true, true, false] rfl rfl (any_of HT_.out (by kernel_rfl)) (fun _ _ _ h => h) (Or.inl ⟨by rfl, ?_⟩) ?_ ?_
   rotate_left
   ·
    intro w'
    go_simp
    with_reducible rfl
   rotate_left
   ·
    simp only [Act.put, List.setIfInBounds_toArray, List.set_cons_zero, List.set_cons_succ, i64_w, i32_w]
    rfl
   refine one_ (i := 3) (N := some 31) #[true, true, true, true, true, true, true, true, true, false] rfl rfl (one_of HT_.out (by kernel_rfl)) (by decide) (fun K hK => ?_)
   refine goes_ Try.func14 (by kernel_rfl) rfl #[.agg #[.int .i64 t338, .bool t339, .bool t340, .slice (some ad348) t341.length co40], .int .i64 ((rd_T42 t341 t347).f0)] (by rfl) rfl rfl xv ?_
   with_reducible refine (fan_Curve.calls k t338 t339 t340 _ _ t341 ((rd_T42 t341 t347).f0) t350 t351 _ ?side1 ?side2 A10.out).mono ?_
   (case side1 => repeat (first | exact (Kd.R_reads' HO343.out).2.2 | (with_reducible refine Kd.C_alloc ?_ _) | (with_reducible refine Kd.C_drewN ?_ _) | (with_reducible refine Kd.C_drew ?_)))
   (case side2 => exact (Kd.R_reads' HO343.out).2.1)
   rintro e w48 ⟨rfl, hb⟩
   refine ⟨_, rfl, ?_⟩
   have n0_ := am (Kd.R_below (xk HO343) hb)
   have n1_ := am (xw BK344 hb)
   have n2_ := am (xw BK349 hb)
   have n3_ := am (below_step (xh HB) hb)
   clear HO343
   clear BK344
   clear BK349
   clear HB
   have HO343 := n0_
   have BK344 := n1_
   have BK349 := n2_
   have HB := n3_
   clear n0_ n1_ n2_ n3_
   (try clear hb)
   (try clear hb2)
   (try clear hk)
   (try clear hi)
   refine hK.out _ _ ⟨(blk_cell BK344.out 0).trans rfl, (blk_cell BK344.out 1).trans rfl, (blk_cell BK344.out 2).trans rfl, (blk_cell BK344.out 3).trans rfl, (blk_cell BK349.out 0).trans rfl, (blk_cell BK349.out 1).trans rfl⟩ (fun hHeld => ?_)
   clear hK K
   refine norm_ (a' := ?_) ?_ ?_
   rotate_left
   ·
    show Act.put _ (some 31) _ = _
    simp only [Act.put, List.setIfInBounds_toArray, List.set_cons_zero, List.set_cons_succ, i64_w, i32_w]
    rfl
   refine pure_ (i := 9) (N := some 37) (v := ?_) (a' := ?_) #[true, true, true, true, true, true, true, true, true, true] rfl rfl (any_of HT_.out (by kernel_rfl)) (fun _ _ _ h => h) (Or.inl ⟨by rfl, ?_⟩) ?_ ?_
   rotate_left
   ·
    intro w'
    go_simp
    with_reducible rfl
   rotate_left
   ·
    simp only [Act.put, List.setIfInBounds_toArray, List.set_cons_zero, List.set_cons_succ, i64_w, i32_w]
    rfl
   refine done_ (done_of HT_.out (by kernel_rfl)) ?_
   have hcz49_0 : w48.cell? ⟨gb344, 0, none⟩ = some (.int .i64 t338) := (blk_cell BK344.out 0).trans rfl
   have hcz49_1 : w48.cell? ⟨gb344, 1, none⟩ = some (.bool t339) := (blk_cell BK344.out 1).trans rfl
   have hcz49_2 : w48.cell? ⟨gb344, 2, none⟩ = some (.bool t340) := (blk_cell BK344.out 2).trans rfl
   have hcz49_3 : w48.cell? ⟨gb344, 3, none⟩ = some (.slice (some ad348) t341.length co40) := (blk_cell BK344.out 3).trans rfl
   have hfz49_0 := blk_frozen BK344.out 0
   have hfz49_1 := blk_frozen BK344.out 1
   have hfz49_2 := blk_frozen BK344.out 2
   have hfz49_3 := blk_frozen BK344.out 3
   have p353 : 0 ≤ ((ji28) : Int) := of_decide_eq_true xa
   have q353 : (ji28) < (t341.length : Int) := of_decide_eq_true xa
   obtain ⟨ad353, e353, hx353_0, hx353_1⟩ := at_T42 (Kd.R_reads' HO343.out).2.2 (ji28) p353 q353
   obtain rfl : ad348 = ad353 := (by injection e353)
   replace p353 := eq_true p353
   replace q353 := eq_true q353
   try go_wp2_with (first | ((with_reducible refine gate_dst (N := 10) rfl ?_); refine xbox 10 (cs := #[.int .i64 0, .int .i64 0]) (t := 42) ?_; intro gb354 hg w50 hbox hb; have n0_ := am (Kd.R_below (Kd.R_elderB (xk HO343) gb354 (Nat.le_of_eq hg.symm)) hb); have n1_ := am (xw BK344 hb); have n2_ := am (xw BK349 hb); have n3_ := am (below_step (xh HB) hb); have n4_ := am (hbox); have n5_ := am (xs hg HB); have n6_ := am (xs hg HB); have n7_ := am (xnl hg BK344); have n8_ := am (xng hg BK344); have n9_ := am (xnl hg BK349); have n10_ := am (xng hg BK349); clear HO343; clear BK344; clear BK349; clear HB; have HO343 := n0_; have BK344 := n1_; have BK349 := n2_; have HB := n3_; have BK354 := n4_; have GW354 := n5_; have GE354 := n6_; have NB344_354 := n7_; have NB354_344 := n8_; have NB349_354 := n9_; have NB354_349 := n10_; clear n0_ n1_ n2_ n3_ n4_ n5_ n6_ n7_ n8_ n9_ n10_; clear hb hbox hg; have hnb51 := NB354_344.out; have hnc51 := NB344_354.out; have hnb52 := NB354_349.out; have hnc52 := NB349_354.out; have hcz53_0 : w50.cell? ⟨gb354, 0, none⟩ = some (.int .i64 0) := (blk_cell BK354.out 0).trans rfl; have hcz53_1 : w50.cell? ⟨gb354, 1, none⟩ = some (.int .i64 0) := (blk_cell BK354.out 1).trans rfl; have hfz53_0 := blk_frozen BK354.out 0; have hfz53_1 := blk_frozen BK354.out 1))
   have n0_ : Aside0 (Kd.R k42 42 ((w50.setCell ⟨gb354, 0, none⟩ (.int .i64 ((rd_T42 t341 (ji28)).f0))).setCell ⟨gb354, 1, none⟩ (.int .i64 ((rd_T42 t341 (ji28)).f1))) w.heap.size (fun k_ => k_ ≠ gb349 ∧ k_ ≠ gb354) (.slice (some ad348) t341.length co40) t341) := ⟨by (with_reducible repeat (first | apply Kd.R_alloc | apply Kd.R_drewN | apply Kd.R_drew)); exact Kd.R_mono (Kd.R_far (p := ⟨gb354, 1, none⟩) (Kd.R_far (p := ⟨gb354, 0, none⟩) (Kd.R_mono HO343.out (fun k_ hk => (⟨hk, hk.2⟩ : _ ∧ k_ ≠ gb354))) (fun _ hk => hk.2) (.int .i64 ((rd_T42 t341 (ji28)).f0))) (fun _ hk => hk.2) (.int .i64 ((rd_T42 t341 (ji28)).f1))) (fun _ hk => ⟨hk.1.1, hk.1.2⟩)⟩
   have n1_ : Aside0 (((w50.setCell ⟨gb354, 0, none⟩ (.int .i64 ((rd_T42 t341 (ji28)).f0))).setCell ⟨gb354, 1, none⟩ (.int .i64 ((rd_T42 t341 (ji28)).f1))).heap[gb344]? = some (.cells #[.int .i64 t338, .bool t339, .bool t340, .slice (some ad348) t341.length co40] 25 (0, 0))) := ⟨by (with_reducible repeat (first | refine blk_drewN ?_ _ | refine blk_drew ?_ | refine blk_alloc ?_ _)); refine blk_far ?_ NB344_354.out _; (with_reducible repeat (first | refine blk_drewN ?_ _ | refine blk_drew ?_ | refine blk_alloc ?_ _)); refine blk_far ?_ NB344_354.out _; (with_reducible repeat (first | refine blk_drewN ?_ _ | refine blk_drew ?_ | refine blk_alloc ?_ _)); exact BK344.out⟩
   have n2_ : Aside0 (((w50.setCell ⟨gb354, 0, none⟩ (.int .i64 ((rd_T42 t341 (ji28)).f0))).setCell ⟨gb354, 1, none⟩ (.int .i64 ((rd_T42 t341 (ji28)).f1))).heap[gb349]? = some (.cells #[.int .i64 ((rd_T42 t341 t347).f0), .int .i64 ((rd_T42 t341 t347).f1)] 42 (0, 0))) := ⟨by (with_reducible repeat (first | refine blk_drewN ?_ _ | refine blk_drew ?_ | refine blk_alloc ?_ _)); refine blk_far ?_ NB349_354.out _; (with_reducible repeat (first | refine blk_drewN ?_ _ | refine blk_drew ?_ | refine blk_alloc ?_ _)); refine blk_far ?_ NB349_354.out _; (with_reducible repeat (first | refine blk_drewN ?_ _ | refine blk_drew ?_ | refine blk_alloc ?_ _)); exact BK349.out⟩
   have n3_ : Aside0 (((w50.setCell ⟨gb354, 0, none⟩ (.int .i64 ((rd_T42 t341 (ji28)).f0))).setCell ⟨gb354, 1, none⟩ (.int .i64 ((rd_T42 t341 (ji28)).f1))).heap[gb354]? = some (.cells #[.int .i64 ((rd_T42 t341 (ji28)).f0), .int .i64 ((rd_T42 t341 (ji28)).f1)] 42 (0, 0))) := ⟨by (with_reducible repeat (first | refine blk_drewN ?_ _ | refine blk_drew ?_ | refine blk_alloc ?_ _)); refine blk_put (cs := #[.int .i64 ((rd_T42 t341 (ji28)).f0), .int .i64 0]) ?_ 1 _ rfl; (with_reducible repeat (first | refine blk_drewN ?_ _ | refine blk_drew ?_ | refine blk_alloc ?_ _)); refine blk_put (cs := #[.int .i64 0, .int .i64 0]) ?_ 0 _ rfl; (with_reducible repeat (first | refine blk_drewN ?_ _ | refine blk_drew ?_ | refine blk_alloc ?_ _)); exact BK354.out⟩
   have n4_ : Aside0 (Below w.heap.size w ((w50.setCell ⟨gb354, 0, none⟩ (.int .i64 ((rd_T42 t341 (ji28)).f0))).setCell ⟨gb354, 1, none⟩ (.int .i64 ((rd_T42 t341 (ji28)).f1)))) := ⟨xh HB⟩
   (try clear HO343)
   (try clear BK344)
   (try clear BK349)
   (try clear BK354)
   (try clear HB)
   generalize ((w50.setCell ⟨gb354, 0, none⟩ (.int .i64 ((rd_T42 t341 (ji28)).f0))).setCell ⟨gb354, 1, none⟩ (.int .i64 ((rd_T42 t341 (ji28)).f1))) = w54 at n0_ n1_ n2_ n3_ n4_ ⊢
   have HO343 := n0_
   have BK344 := n1_
   have BK349 := n2_
   have BK354 := n3_
   have HB := n4_
   clear n0_ n1_ n2_ n3_ n4_
   have n0_ := am (Kd.R_drew HO343.out)
   have n1_ := am (blk_drew BK344.out)
   have n2_ := am (blk_drew BK349.out)
   have n3_ := am (blk_drew BK354.out)
   have n4_ := am (below_drew1 HB.out)
   clear HO343
   clear BK344
   clear BK349
   clear BK354
   clear HB
   have HO343 := n0_
   have BK344 := n1_
   have BK349 := n2_
   have BK354 := n3_
   have HB := n4_
   clear n0_ n1_ n2_ n3_ n4_
   refine start_ (n := 16) (S := fun w' => w'.cell? ⟨gb344, 0, none⟩ = some (.int .i64 t338) ∧ w'.cell? ⟨gb344, 1, none⟩ = some (.bool t339) ∧ w'.cell? ⟨gb344, 2, none⟩ = some (.bool t340) ∧ w'.cell? ⟨gb344, 3, none⟩ = some (.slice (some ad348) t341.length co40) ∧ w'.cell? ⟨gb349, 0, none⟩ = some (.int .i64 ((rd_T42 t341 t347).f0)) ∧ w'.cell? ⟨gb349, 1, none⟩ = some (.int .i64 ((rd_T42 t341 t347).f1)) ∧ w'.cell? ⟨gb354, 0, none⟩ = some (.int .i64 ((rd_T42 t341 (ji28)).f0)) ∧ w'.cell? ⟨gb354, 1, none⟩ = some (.int .i64 ((rd_T42 t341 (ji28)).f1))) (ds := []) #[false, false, false, false, false, false, false, false, false, false, false, false, false, false, false, false] (by kernel_rfl) rfl rfl ⟨(blk_cell BK344.out 0).trans rfl, (blk_cell BK344.out 1).trans rfl, (blk_cell BK344.out 2).trans rfl, (blk_cell BK344.out 3).trans rfl, (blk_cell BK349.out 0).trans rfl, (blk_cell BK349.out 1).trans rfl, (blk_cell BK354.out 0).trans rfl, (blk_cell BK354.out 1).trans rfl⟩ (fun hHeld => ?_); refine with_tabW minecontrollaw07_FanPoints.tab11 minecontrollaw07_FanPoints.bits11 (fun HT_ HW_ => ?_)
   generalize w54.drew = w55 at HO343 BK344 BK349 BK354 HB hHeld ⊢
   refine pure_ (i := 1) (N := some 52) (v := ?_) (a' := ?_) #[false, true, false, false, false, false, false, false, false, false, false, false, false, false, false, false] rfl rfl (any_of HT_.out (by kernel_rfl)) (fun _ _ _ h => h) (Or.inl ⟨by rfl, ?_⟩) ?_ ?_
   rotate_left
   ·
    intro w'
    go_simp
    with_reducible rfl
   rotate_left
   ·
    simp only [Act.put, List.setIfInBounds_toArray, List.set_cons_zero, List.set_cons_succ, i64_w, i32_w]
    rfl
   refine pure_ (i := 3) (N := some 54) (v := ?_) (a' := ?_) #[false, true, false, true, false, false, false, false, false, false, false, false, false, false, false, false] rfl rfl (any_of HT_.out (by kernel_rfl)) (fun _ _ _ h => h) (Or.inl ⟨by rfl, ?_⟩) ?_ ?_
   rotate_left
   ·
    intro w'
    go_simp
    with_reducible rfl
   rotate_left
   ·
    simp only [Act.put, List.setIfInBounds_toArray, List.set_cons_zero, List.set_cons_succ, i64_w, i32_w]
    rfl
   refine pure_ (i := 4) (N := some 55) (v := ?_) (a' := ?_) #[false, true, false, true, true, false, false, false, false, false, false, false, false, false, false, false] rfl rfl (any_of HT_.out (by kernel_rfl)) (fun _ _ _ h => h) (Or.inl ⟨by rfl, ?_⟩) ?_ ?_
   rotate_left
   ·
    intro w'
    go_simp
    with_reducible rfl
   rotate_left
   ·
    simp only [Act.put, List.setIfInBounds_toArray, List.set_cons_zero, List.set_cons_succ, i64_w, i32_w]
    rfl
   refine pure_ (i := 5) (N := some 56) (v := ?_) (a' := ?_) #[false, true, false, true, true, true, false, false, false, false, false, false, false, false, false, false] rfl rfl (any_of HT_.out (by kernel_rfl)) (fun _ _ _ h => h) (Or.inl ⟨by rfl, ?_⟩) ?_ ?_
   rotate_left
   ·
    intro w'
    go_simp
    with_reducible rfl
   rotate_left
   ·
    simp only [Act.put, List.setIfInBounds_toArray, List.set_cons_zero, List.set_cons_succ, i64_w, i32_w]
    rfl
   refine pure_ (i := 7) (N := some 58) (v := ?_) (a' := ?_) #[false, true, false, true, true, true, false, true, false, false, false, false, false, false, false, false] rfl rfl (any_of HT_.out (by kernel_rfl)) (fun _ _ _ h => h) (Or.inl ⟨by rfl, ?_⟩) ?_ ?_
   rotate_left
   ·
    intro w'
    go_simp
    with_reducible rfl
   rotate_left
   ·
    simp only [Act.put, List.setIfInBounds_toArray, List.set_cons_zero, List.set_cons_succ, i64_w, i32_w]
    rfl
   refine take_ (i := 0) (N := some 51) (v := ?_) (a' := ?_) #[true, true, false, true, true, true, false, true, false, false, false, false, false, false, false, false] rfl rfl (take_ofW HT_.out HW_.out (by kernel_rfl)) (fun _ _ _ h => h) (Or.inl ⟨by rfl, ?_⟩) hHeld ?_ ?_
   rotate_left
   ·
    rintro w' ⟨s0, s1, s2, s3, s4, s5, s6, s7⟩
    go_simp
    with_reducible rfl
   rotate_left
   ·
    simp only [Act.put, List.setIfInBounds_toArray, List.set_cons_zero, List.set_cons_succ, i64_w, i32_w]
    rfl
   refine take_ (i := 2) (N := some 53) (v := ?_) (a' := ?_) #[true, true, true, true, true, true, false, true, false, false, false, false, false, false, false, false] rfl rfl (take_ofW HT_.out HW_.out (by kernel_rfl)) (fun _ _ _ h => h) (Or.inl ⟨by rfl, ?_⟩) hHeld ?_ ?_
   rotate_left
   ·
    rintro w' ⟨s0, s1, s2, s3, s4, s5, s6, s7⟩
    go_simp
    with_reducible rfl
   rotate_left
   ·
    simp only [Act.put, List.setIfInBounds_toArray, List.set_cons_zero, List.set_cons_succ, i64_w, i32_w]
    rfl
   refine take_ (i := 6) (N := some 57) (v := ?_) (a' := ?_) #[true, true, true, true, true, true, true, true, false, false, false, false, false, false, false, false] rfl rfl (take_ofW HT_.out HW_.out (by kernel_rfl)) (fun _ _ _ h => h) (Or.inl ⟨by rfl, ?_⟩) hHeld ?_ ?_
   rotate_left
   ·
    rintro w' ⟨s0, s1, s2, s3, s4, s5, s6, s7⟩
    go_simp
    with_reducible rfl
   rotate_left
   ·
    simp only [Act.put, List.setIfInBounds_toArray, List.set_cons_zero, List.set_cons_succ, i64_w, i32_w]
    rfl
   refine take_ (i := 8) (N := some 59) (v := ?_) (a' := ?_) #[true, true, true, true, true, true, true, true, true, false, false, false, false, false, false, false] rfl rfl (take_ofW HT_.out HW_.out (by kernel_rfl)) (fun _ _ _ h => h) (Or.inl ⟨by rfl, ?_⟩) hHeld ?_ ?_
   rotate_left
   ·
    rintro w' ⟨s0, s1, s2, s3, s4, s5, s6, s7⟩
    go_simp
    with_reducible rfl
   rotate_left
   ·
    simp only [Act.put, List.setIfInBounds_toArray, List.set_cons_zero, List.set_cons_succ, i64_w, i32_w]
    rfl
   refine pure_ (i := 9) (N := some 60) (v := ?_) (a' := ?_) #[true, true, true, true, true, true, true, true, true, true, false, false, false, false, false, false] rfl rfl (any_of HT_.out (by kernel_rfl)) (fun _ _ _ h => h) (Or.inl ⟨by rfl, ?_⟩) ?_ ?_
   rotate_left
   ·
    intro w'
    go_simp
    with_reducible rfl
   rotate_left
   ·
    simp only [Act.put, List.setIfInBounds_toArray, List.set_cons_zero, List.set_cons_succ, i64_w, i32_w]
    rfl
   refine pure_ (i := 10) (N := some 61) (v := ?_) (a' := ?_) #[true, true, true, true, true, true, true, true, true, true, true, false, false, false, false, false] rfl rfl (any_of HT_.out (by kernel_rfl)) (fun _ _ _ h => h) (Or.inl ⟨by rfl, ?_⟩) ?_ ?_
   rotate_left
   ·
    intro w'
    go_simp
    with_reducible rfl
   rotate_left
   ·
    simp only [Act.put, List.setIfInBounds_toArray, List.set_cons_zero, List.set_cons_succ, i64_w, i32_w]
    rfl
   refine pure_ (i := 11) (N := some 62) (v := ?_) (a' := ?_) #[true, true, true, true, true, true, true, true, true, true, true, true, false, false, false, false] rfl rfl (any_of HT_.out (by kernel_rfl)) (fun _ _ _ h => h) (Or.inl ⟨by rfl, ?_⟩) ?_ ?_
   rotate_left
   ·
    intro w'
    go_simp
    with_reducible rfl
   rotate_left
   ·
    simp only [Act.put, List.setIfInBounds_toArray, List.set_cons_zero, List.set_cons_succ, i64_w, i32_w]
    rfl
   refine pure_ (i := 12) (N := some 63) (v := ?_) (a' := ?_) #[true, true, true, true, true, true, true, true, true, true, true, true, true, false, false, false] rfl rfl (any_of HT_.out (by kernel_rfl)) (fun _ _ _ h => h) (Or.inl ⟨by rfl, ?_⟩) ?_ ?_
   rotate_left
   ·
    intro w'
    go_simp
    with_reducible rfl
   rotate_left
   ·
    simp only [Act.put, List.setIfInBounds_toArray, List.set_cons_zero, List.set_cons_succ, i64_w, i32_w]
    rfl
   refine join_ (σ := Nat) 1 #[true, true, true, true, true, true, true, true, true, true, true, true, true, true, true, false] (fun s_ => [(64, .agg #[.int .i64 t355, .int .i64 t356]), (11, .pointer (some ⟨s_, 0, none⟩))]) (fun s_ w' => (w'.cell? ⟨gb344, 0, none⟩ = some (.int .i64 t338) ∧ w'.cell? ⟨gb344, 1, none⟩ = some (.bool t339) ∧ w'.cell? ⟨gb344, 2, none⟩ = some (.bool t340) ∧ w'.cell? ⟨gb344, 3, none⟩ = some (.slice (some ad348) t341.length co40) ∧ w'.cell? ⟨gb349, 0, none⟩ = some (.int .i64 ((rd_T42 t341 t347).f0)) ∧ w'.cell? ⟨gb349, 1, none⟩ = some (.int .i64 ((rd_T42 t341 t347).f1)) ∧ w'.cell? ⟨gb354, 0, none⟩ = some (.int .i64 ((rd_T42 t341 (ji28)).f0)) ∧ w'.cell? ⟨gb354, 1, none⟩ = some (.int .i64 ((rd_T42 t341 (ji28)).f1))) ∧ (Kd.R k42 42 w' w.heap.size (fun k_ => k_ ≠ gb349 ∧ k_ ≠ gb354) (.slice (some ad348) t341.length co40) t341) ∧ (w'.heap[gb344]? = some (.cells #[.int .i64 t338, .bool t339, .bool t340, .slice (some ad348) t341.length co40] 25 (0, 0))) ∧ (w'.heap[gb349]? = some (.cells #[.int .i64 ((rd_T42 t341 t347).f0), .int .i64 ((rd_T42 t341 t347).f1)] 42 (0, 0))) ∧ (w'.heap[gb354]? = some (.cells #[.int .i64 ((rd_T42 t341 (ji28)).f0), .int .i64 ((rd_T42 t341 (ji28)).f1)] 42 (0, 0))) ∧ (w'.heap[s_]? = some (.cells #[.int .i64 0, .int .i64 0] 34 (0, 0))) ∧ (w.heap.size ≤ s_) ∧ (w.heap.size ≤ s_) ∧ (gb344 ≠ s_) ∧ (s_ ≠ gb344) ∧ (gb349 ≠ s_) ∧ (s_ ≠ gb349) ∧ (gb354 ≠ s_) ∧ (s_ ≠ gb354) ∧ (Below w.heap.size w w')) ?_ ?_
   rotate_left
   ·
    intro hCont
    refine two_ (i := 13) (j := 14) (Ni := some 64) (Nj := some 11) #[true, true, true, true, true, true, true, true, true, true, true, true, true, true, false, false] #[true, true, true, true, true, true, true, true, true, true, true, true, true, false, true, false] rfl rfl rfl rfl (two_of HT_.out (by kernel_rfl)) (by decide) (by decide) (fun K hK => ?_) (fun K hK => ?_)
    ·
     skip
     refine goes_ Try.func14 (by kernel_rfl) rfl #[.agg #[.int .i64 t338, .bool t339, .bool t340, .slice (some ad348) t341.length co40], .int .i64 (wrap64 (((rd_T42 t341 t347).f0) + (Int.tmod (wrap64 (a2)) (wrap64 ((wrap64 (((rd_T42 t341 (ji28)).f0) - ((rd_T42 t341 t347).f0))) + 1)))))] (by rfl) rfl rfl (by (try simp only [List.map_toArray, List.map_cons, List.map_nil]); first | done | (simp only [hji28]; rfl) | rfl | (simp only [List.length_drop, List.length_take]; rfl)) ?_
     with_reducible refine (fan_Curve.calls k t338 t339 t340 _ _ t341 (wrap64 (((rd_T42 t341 t347).f0) + (Int.tmod (wrap64 (a2)) (wrap64 ((wrap64 (((rd_T42 t341 (ji28)).f0) - ((rd_T42 t341 t347).f0))) + 1))))) t355 t356 _ ?side1 ?side2 A32.out).mono ?_
     (case side1 => repeat (first | exact (Kd.R_reads' HO343.out).2.2 | (with_reducible refine Kd.C_alloc ?_ _) | (with_reducible refine Kd.C_drewN ?_ _) | (with_reducible refine Kd.C_drew ?_)))
     (case side2 => exact (Kd.R_reads' HO343.out).2.1)
     rintro e w56 ⟨rfl, hb⟩
     refine ⟨_, rfl, ?_⟩
     have n0_ := am (Kd.R_below (xk HO343) hb)
     have n1_ := am (xw BK344 hb)
     have n2_ := am (xw BK349 hb)
     have n3_ := am (xw BK354 hb)
     have n4_ := am (below_step (xh HB) hb)
     clear HO343
     clear BK344
     clear BK349
     clear BK354
     clear HB
     have HO343 := n0_
     have BK344 := n1_
     have BK349 := n2_
     have BK354 := n3_
     have HB := n4_
     clear n0_ n1_ n2_ n3_ n4_
     (try clear hb)
     (try clear hb2)
     (try clear hk)
     (try clear hi)
     refine hK.out _ _ ⟨(blk_cell BK344.out 0).trans rfl, (blk_cell BK344.out 1).trans rfl, (blk_cell BK344.out 2).trans rfl, (blk_cell BK344.out 3).trans rfl, (blk_cell BK349.out 0).trans rfl, (blk_cell BK349.out 1).trans rfl, (blk_cell BK354.out 0).trans rfl, (blk_cell BK354.out 1).trans rfl⟩ (fun hHeld => ?_)
     clear hK K
     refine norm_ (a' := ?_) ?_ ?_
     rotate_left
     ·
      show Act.put _ (some 64) _ = _
      simp only [Act.put, List.setIfInBounds_toArray, List.set_cons_zero, List.set_cons_succ, i64_w, i32_w]
      rfl
     refine one_ (i := 14) (N := some 11) #[true, true, true, true, true, true, true, true, true, true, true, true, true, true, true, false] rfl rfl (one_of HT_.out (by kernel_rfl)) (by decide) (fun K hK => ?_)
     refine box_step ?hg (N := 11) ?hd (cs := #[.int .i64 0, .int .i64 0]) (t := 34) ?hr ?_; (case hd => rfl); (case hg => rfl); (case hr => first | (go_simp; done) | (go_simp; rfl))
     intro gb357 hg w57 hbox hb
     have n0_ := am (Kd.R_below (xk HO343) hb)
     have n1_ := am (xw BK344 hb)
     have n2_ := am (xw BK349 hb)
     have n3_ := am (xw BK354 hb)
     have n4_ := am (below_step (xh HB) hb)
     have n5_ := am (hbox)
     have n6_ := am (xs hg HB)
     have n7_ := am (xs hg HB)
     have n8_ := am (xnl hg BK344)
     have n9_ := am (xng hg BK344)
     have n10_ := am (xnl hg BK349)
     have n11_ := am (xng hg BK349)
     have n12_ := am (xnl hg BK354)
     have n13_ := am (xng hg BK354)
     clear HO343
     clear BK344
     clear BK349
     clear BK354
     clear HB
     have HO343 := n0_
     have BK344 := n1_
     have BK349 := n2_
     have BK354 := n3_
     have HB := n4_
     have BK357 := n5_
     have GW357 := n6_
     have GE357 := n7_
     have NB344_357 := n8_
     have NB357_344 := n9_
     have NB349_357 := n10_
     have NB357_349 := n11_
     have NB354_357 := n12_
     have NB357_354 := n13_
     clear n0_ n1_ n2_ n3_ n4_ n5_ n6_ n7_ n8_ n9_ n10_ n11_ n12_ n13_
     clear hb hbox hg
     refine hK.out _ _ ⟨(blk_cell BK344.out 0).trans rfl, (blk_cell BK344.out 1).trans rfl, (blk_cell BK344.out 2).trans rfl, (blk_cell BK344.out 3).trans rfl, (blk_cell BK349.out 0).trans rfl, (blk_cell BK349.out 1).trans rfl, (blk_cell BK354.out 0).trans rfl, (blk_cell BK354.out 1).trans rfl⟩ (fun hHeld => ?_)
     clear hK K
     refine norm_ (a' := ?_) ?_ ?_
     rotate_left
     ·
      show Act.put _ (some 11) _ = _
      simp only [Act.put, List.setIfInBounds_toArray, List.set_cons_zero, List.set_cons_succ, i64_w, i32_w]
      rfl
     exact norm_ (by simp only [putAll, Act.put, List.setIfInBounds_toArray, List.set_cons_zero, List.set_cons_succ]) (hCont (gb357) _ ⟨hHeld, (xk HO343), (xb BK344), (xb BK349), (xb BK354), (xb BK357), GW357.out, GE357.out, NB344_357.out, NB357_344.out, NB349_357.out, NB357_349.out, NB354_357.out, NB357_354.out, (xh HB)⟩)
    ·
     skip
     refine box_step ?hg (N := 11) ?hd (cs := #[.int .i64 0, .int .i64 0]) (t := 34) ?hr ?_; (case hd => rfl); (case hg => rfl); (case hr => first | (go_simp; done) | (go_simp; rfl))
     intro gb357 hg w56 hbox hb
     have n0_ := am (Kd.R_below (xk HO343) hb)
     have n1_ := am (xw BK344 hb)
     have n2_ := am (xw BK349 hb)
     have n3_ := am (xw BK354 hb)
     have n4_ := am (below_step (xh HB) hb)
     have n5_ := am (hbox)
     have n6_ := am (xs hg HB)
     have n7_ := am (xs hg HB)
     have n8_ := am (xnl hg BK344)
     have n9_ := am (xng hg BK344)
     have n10_ := am (xnl hg BK349)
     have n11_ := am (xng hg BK349)
     have n12_ := am (xnl hg BK354)
     have n13_ := am (xng hg BK354)
     clear HO343
     clear BK344
     clear BK349
     clear BK354
     clear HB
     have HO343 := n0_
     have BK344 := n1_
     have BK349 := n2_
     have BK354 := n3_
     have HB := n4_
     have BK357 := n5_
     have GW357 := n6_
     have GE357 := n7_
     have NB344_357 := n8_
     have NB357_344 := n9_
     have NB349_357 := n10_
     have NB357_349 := n11_
     have NB354_357 := n12_
     have NB357_354 := n13_
     clear n0_ n1_ n2_ n3_ n4_ n5_ n6_ n7_ n8_ n9_ n10_ n11_ n12_ n13_
     clear hb hbox hg
     refine hK.out _ _ ⟨(blk_cell BK344.out 0).trans rfl, (blk_cell BK344.out 1).trans rfl, (blk_cell BK344.out 2).trans rfl, (blk_cell BK344.out 3).trans rfl, (blk_cell BK349.out 0).trans rfl, (blk_cell BK349.out 1).trans rfl, (blk_cell BK354.out 0).trans rfl, (blk_cell BK354.out 1).trans rfl⟩ (fun hHeld => ?_)
     clear hK K
     refine norm_ (a' := ?_) ?_ ?_
     rotate_left
     ·
      show Act.put _ (some 11) _ = _
      simp only [Act.put, List.setIfInBounds_toArray, List.set_cons_zero, List.set_cons_succ, i64_w, i32_w]
      rfl
     refine one_ (i := 13) (N := some 64) #[true, true, true, true, true, true, true, true, true, true, true, true, true, true, true, false] rfl rfl (one_of HT_.out (by kernel_rfl)) (by decide) (fun K hK => ?_)
     refine goes_ Try.func14 (by kernel_rfl) rfl #[.agg #[.int .i64 t338, .bool t339, .bool t340, .slice (some ad348) t341.length co40], .int .i64 (wrap64 (((rd_T42 t341 t347).f0) + (Int.tmod (wrap64 (a2)) (wrap64 ((wrap64 (((rd_T42 t341 (ji28)).f0) - ((rd_T42 t341 t347).f0))) + 1)))))] (by rfl) rfl rfl (by (try simp only [List.map_toArray, List.map_cons, List.map_nil]); first | done | (simp only [hji28]; rfl) | rfl | (simp only [List.length_drop, List.length_take]; rfl)) ?_
     with_reducible refine (fan_Curve.calls k t338 t339 t340 _ _ t341 (wrap64 (((rd_T42 t341 t347).f0) + (Int.tmod (wrap64 (a2)) (wrap64 ((wrap64 (((rd_T42 t341 (ji28)).f0) - ((rd_T42 t341 t347).f0))) + 1))))) t355 t356 _ ?side1 ?side2 A32.out).mono ?_
     (case side1 => repeat (first | exact (Kd.R_reads' HO343.out).2.2 | (with_reducible refine Kd.C_alloc ?_ _) | (with_reducible refine Kd.C_drewN ?_ _) | (with_reducible refine Kd.C_drew ?_)))
     (case side2 => exact (Kd.R_reads' HO343.out).2.1)
     rintro e w57 ⟨rfl, hb⟩
     refine ⟨_, rfl, ?_⟩
     have n0_ := am (Kd.R_below (xk HO343) hb)
     have n1_ := am (xw BK344 hb)
     have n2_ := am (xw BK349 hb)
     have n3_ := am (xw BK354 hb)
     have n4_ := am (xw BK357 hb)
     have n5_ := am (below_step (xh HB) hb)
     clear HO343
     clear BK344
     clear BK349
     clear BK354
     clear BK357
     clear HB
     have HO343 := n0_
     have BK344 := n1_
     have BK349 := n2_
     have BK354 := n3_
     have BK357 := n4_
     have HB := n5_
     clear n0_ n1_ n2_ n3_ n4_ n5_
     (try clear hb)
     (try clear hb2)
     (try clear hk)
     (try clear hi)
     refine hK.out _ _ ⟨(blk_cell BK344.out 0).trans rfl, (blk_cell BK344.out 1).trans rfl, (blk_cell BK344.out 2).trans rfl, (blk_cell BK344.out 3).trans rfl, (blk_cell BK349.out 0).trans rfl, (blk_cell BK349.out 1).trans rfl, (blk_cell BK354.out 0).trans rfl, (blk_cell BK354.out 1).trans rfl⟩ (fun hHeld => ?_)
     clear hK K
     refine norm_ (a' := ?_) ?_ ?_
     rotate_left
     ·
      show Act.put _ (some 64) _ = _
      simp only [Act.put, List.setIfInBounds_toArray, List.set_cons_zero, List.set_cons_succ, i64_w, i32_w]
      rfl
     exact norm_ (by simp only [putAll, Act.put, List.setIfInBounds_toArray, List.set_cons_zero, List.set_cons_succ]) (hCont (gb357) _ ⟨hHeld, (xk HO343), (xb BK344), (xb BK349), (xb BK354), (xb BK357), GW357.out, GE357.out, NB344_357.out, NB357_344.out, NB349_357.out, NB357_349.out, NB354_357.out, NB357_354.out, (xh HB)⟩)
   rintro gb357 w58 ⟨hS_, h0_, h1_, h2_, h3_, h4_, h5_, h6_, h7_, h8_, h9_, h10_, h11_, h12_, h13_⟩
   have n0_ : Aside0 (Kd.R k42 42 w58 w.heap.size (fun k_ => k_ ≠ gb349 ∧ k_ ≠ gb354) (.slice (some ad348) t341.length co40) t341) := ⟨h0_⟩
   have n1_ : Aside0 (w58.heap[gb344]? = some (.cells #[.int .i64 t338, .bool t339, .bool t340, .slice (some ad348) t341.length co40] 25 (0, 0))) := ⟨h1_⟩
   have n2_ : Aside0 (w58.heap[gb349]? = some (.cells #[.int .i64 ((rd_T42 t341 t347).f0), .int .i64 ((rd_T42 t341 t347).f1)] 42 (0, 0))) := ⟨h2_⟩
   have n3_ : Aside0 (w58.heap[gb354]? = some (.cells #[.int .i64 ((rd_T42 t341 (ji28)).f0), .int .i64 ((rd_T42 t341 (ji28)).f1)] 42 (0, 0))) := ⟨h3_⟩
   have n4_ : Aside0 (w58.heap[gb357]? = some (.cells #[.int .i64 0, .int .i64 0] 34 (0, 0))) := ⟨h4_⟩
   have n5_ : Aside0 (w.heap.size ≤ gb357) := ⟨h5_⟩
   have n6_ : Aside0 (w.heap.size ≤ gb357) := ⟨h6_⟩
   have n7_ : Aside0 (gb344 ≠ gb357) := ⟨h7_⟩
   have n8_ : Aside0 (gb357 ≠ gb344) := ⟨h8_⟩
   have n9_ : Aside0 (gb349 ≠ gb357) := ⟨h9_⟩
   have n10_ : Aside0 (gb357 ≠ gb349) := ⟨h10_⟩
   have n11_ : Aside0 (gb354 ≠ gb357) := ⟨h11_⟩
   have n12_ : Aside0 (gb357 ≠ gb354) := ⟨h12_⟩
   have n13_ : Aside0 (Below w.heap.size w w58) := ⟨h13_⟩
   clear HO343
   clear BK344
   clear BK349
   clear BK354
   clear HB
   clear h0_ h1_ h2_ h3_ h4_ h5_ h6_ h7_ h8_ h9_ h10_ h11_ h12_ h13_
   have HO343 := n0_
   have BK344 := n1_
   have BK349 := n2_
   have BK354 := n3_
   have BK357 := n4_
   have GW357 := n5_
   have GE357 := n6_
   have NB344_357 := n7_
   have NB357_344 := n8_
   have NB349_357 := n9_
   have NB357_349 := n10_
   have NB354_357 := n11_
   have NB357_354 := n12_
   have HB := n13_
   clear n0_ n1_ n2_ n3_ n4_ n5_ n6_ n7_ n8_ n9_ n10_ n11_ n12_ n13_
   have hHeld : w58.cell? ⟨gb344, 0, none⟩ = some (.int .i64 t338) ∧ w58.cell? ⟨gb344, 1, none⟩ = some (.bool t339) ∧ w58.cell? ⟨gb344, 2, none⟩ = some (.bool t340) ∧ w58.cell? ⟨gb344, 3, none⟩ = some (.slice (some ad348) t341.length co40) ∧ w58.cell? ⟨gb349, 0, none⟩ = some (.int .i64 ((rd_T42 t341 t347).f0)) ∧ w58.cell? ⟨gb349, 1, none⟩ = some (.int .i64 ((rd_T42 t341 t347).f1)) ∧ w58.cell? ⟨gb354, 0, none⟩ = some (.int .i64 ((rd_T42 t341 (ji28)).f0)) ∧ w58.cell? ⟨gb354, 1, none⟩ = some (.int .i64 ((rd_T42 t341 (ji28)).f1)) := hS_
   refine norm_ (a' := ?_) ?_ ?_
   rotate_left
   ·
    simp only [putAll, Act.put, List.setIfInBounds_toArray, List.set_cons_zero, List.set_cons_succ]
    rfl
   refine one_ (i := 15) (N := none) #[true, true, true, true, true, true, true, true, true, true, true, true, true, true, true, true] rfl rfl (one_of HT_.out (by kernel_rfl)) (by decide) (fun K hK => ?_)
   have hs59 : w58.cell? ⟨gb357, 0, none⟩ = some (.int .i64 0) := (blk_cell BK357.out 0).trans rfl
   have hfs59 := blk_frozen BK357.out 0
   have hns59_0 := NB344_357.out
   have hns59_1 := NB349_357.out
   have hns59_2 := NB354_357.out
   have hms59_0 := NB357_344.out
   have hms59_1 := NB357_349.out
   have hms59_2 := NB357_354.out
   have hs60 : w58.cell? ⟨gb357, 1, none⟩ = some (.int .i64 0) := (blk_cell BK357.out 1).trans rfl
   have hfs60 := blk_frozen BK357.out 1
   have hns60_0 := NB344_357.out
   have hns60_1 := NB349_357.out
   have hns60_2 := NB354_357.out
   have hms60_0 := NB357_344.out
   have hms60_1 := NB357_349.out
   have hms60_2 := NB357_354.out
   refine skip_ (w1 := ?_) (by rfl) rfl ?_ ?_
   rotate_left
   ·
    go_simp
    rfl
   refine hK.out _ _ ⟨((cell_far (p := ⟨gb357, _, none⟩) NB344_357.out _).trans (((cell_far (p := ⟨gb357, _, none⟩) NB344_357.out _).trans (hHeld.1)))), ((cell_far (p := ⟨gb357, _, none⟩) NB344_357.out _).trans (((cell_far (p := ⟨gb357, _, none⟩) NB344_357.out _).trans (hHeld.2.1)))), ((cell_far (p := ⟨gb357, _, none⟩) NB344_357.out _).trans (((cell_far (p := ⟨gb357, _, none⟩) NB344_357.out _).trans (hHeld.2.2.1)))), ((cell_far (p := ⟨gb357, _, none⟩) NB344_357.out _).trans (((cell_far (p := ⟨gb357, _, none⟩) NB344_357.out _).trans (hHeld.2.2.2.1)))), ((cell_far (p := ⟨gb357, _, none⟩) NB349_357.out _).trans (((cell_far (p := ⟨gb357, _, none⟩) NB349_357.out _).trans (hHeld.2.2.2.2.1)))), ((cell_far (p := ⟨gb357, _, none⟩) NB349_357.out _).trans (((cell_far (p := ⟨gb357, _, none⟩) NB349_357.out _).trans (hHeld.2.2.2.2.2.1)))), ((cell_far (p := ⟨gb357, _, none⟩) NB354_357.out _).trans (((cell_far (p := ⟨gb357, _, none⟩) NB354_357.out _).trans (hHeld.2.2.2.2.2.2.1)))), ((cell_far (p := ⟨gb357, _, none⟩) NB354_357.out _).trans (((cell_far (p := ⟨gb357, _, none⟩) NB354_357.out _).trans (hHeld.2.2.2.2.2.2.2))))⟩ (fun hHeld => ?_)
   clear hK K
   refine done_ (done_of HT_.out (by kernel_rfl)) ?_
   have hnb61 := NB354_357.out
   have hnc61 := NB357_354.out
   have hcz62_0 : w58.cell? ⟨gb354, 0, none⟩ = some (.int .i64 ((rd_T42 t341 (ji28)).f0)) := (blk_cell BK354.out 0).trans rfl
   have hcz62_1 : w58.cell? ⟨gb354, 1, none⟩ = some (.int .i64 ((rd_T42 t341 (ji28)).f1)) := (blk_cell BK354.out 1).trans rfl
   have hfz62_0 := blk_frozen BK354.out 0
   have hfz62_1 := blk_frozen BK354.out 1
   have hnb63 := NB357_344.out
   have hnc63 := NB344_357.out
   have hnb64 := NB357_349.out
   have hnc64 := NB349_357.out
   have hcz65_0 : w58.cell? ⟨gb357, 0, none⟩ = some (.int .i64 0) := (blk_cell BK357.out 0).trans rfl
   have hcz65_1 : w58.cell? ⟨gb357, 1, none⟩ = some (.int .i64 0) := (blk_cell BK357.out 1).trans rfl
   have hfz65_0 := blk_frozen BK357.out 0
   have hfz65_1 := blk_frozen BK357.out 1
   have hcz66_0 : w58.cell? ⟨gb349, 0, none⟩ = some (.int .i64 ((rd_T42 t341 t347).f0)) := (blk_cell BK349.out 0).trans rfl
   have hcz66_1 : w58.cell? ⟨gb349, 1, none⟩ = some (.int .i64 ((rd_T42 t341 t347).f1)) := (blk_cell BK349.out 1).trans rfl
   have hfz66_0 := blk_frozen BK349.out 0
   have hfz66_1 := blk_frozen BK349.out 1
   try go_wp2_with (first | (go_at_call 12; (with_reducible refine (minecontrollaw07_awake.calls k  t358 _ A36.out).mono ?_); rintro e w67 ⟨rfl, hb⟩; have n0_ := am (Kd.R_below (by (with_reducible repeat (first | apply Kd.R_alloc | apply Kd.R_drewN | apply Kd.R_drew)); exact (Kd.R_mono (Kd.R_far (p := ⟨gb357, 1, none⟩) (Kd.R_far (p := ⟨gb357, 0, none⟩) (Kd.R_types HO343.out BK357.out (by decide)) (fun _ hk => hk.2) (.int .i64 t355)) (fun _ hk => hk.2) (.int .i64 t356)) (fun _ h_ => h_.1))) hb); have n1_ := am (blk_below (g := gb344) (o := .cells #[.int .i64 t338, .bool t339, .bool t340, .slice (some ad348) t341.length co40] 25 (0, 0)) (by (with_reducible repeat (first | refine blk_drewN ?_ _ | refine blk_drew ?_ | refine blk_alloc ?_ _)); refine blk_far ?_ NB344_357.out _; (with_reducible repeat (first | refine blk_drewN ?_ _ | refine blk_drew ?_ | refine blk_alloc ?_ _)); refine blk_far ?_ NB344_357.out _; (with_reducible repeat (first | refine blk_drewN ?_ _ | refine blk_drew ?_ | refine blk_alloc ?_ _)); exact BK344.out) hb); have n2_ := am (blk_below (g := gb349) (o := .cells #[.int .i64 ((rd_T42 t341 t347).f0), .int .i64 ((rd_T42 t341 t347).f1)] 42 (0, 0)) (by (with_reducible repeat (first | refine blk_drewN ?_ _ | refine blk_drew ?_ | refine blk_alloc ?_ _)); refine blk_far ?_ NB349_357.out _; (with_reducible repeat (first | refine blk_drewN ?_ _ | refine blk_drew ?_ | refine blk_alloc ?_ _)); refine blk_far ?_ NB349_357.out _; (with_reducible repeat (first | refine blk_drewN ?_ _ | refine blk_drew ?_ | refine blk_alloc ?_ _)); exact BK349.out) hb); have n3_ := am (blk_below (g := gb354) (o := .cells #[.int .i64 ((rd_T42 t341 (ji28)).f0), .int .i64 ((rd_T42 t341 (ji28)).f1)] 42 (0, 0)) (by (with_reducible repeat (first | refine blk_drewN ?_ _ | refine blk_drew ?_ | refine blk_alloc ?_ _)); refine blk_far ?_ NB354_357.out _; (with_reducible repeat (first | refine blk_drewN ?_ _ | refine blk_drew ?_ | refine blk_alloc ?_ _)); refine blk_far ?_ NB354_357.out _; (with_reducible repeat (first | refine blk_drewN ?_ _ | refine blk_drew ?_ | refine blk_alloc ?_ _)); exact BK354.out) hb); have n4_ := am (blk_below (g := gb357) (o := .cells #[.int .i64 t355, .int .i64 t356] 34 (0, 0)) (by (with_reducible repeat (first | refine blk_drewN ?_ _ | refine blk_drew ?_ | refine blk_alloc ?_ _)); refine blk_put (cs := #[.int .i64 t355, .int .i64 0]) ?_ 1 _ rfl; (with_reducible repeat (first | refine blk_drewN ?_ _ | refine blk_drew ?_ | refine blk_alloc ?_ _)); refine blk_put (cs := #[.int .i64 0, .int .i64 0]) ?_ 0 _ rfl; (with_reducible repeat (first | refine blk_drewN ?_ _ | refine blk_drew ?_ | refine blk_alloc ?_ _)); exact BK357.out) hb); have n5_ := am (below_step (xh HB) hb); clear HO343; clear BK344; clear BK349; clear BK354; clear BK357; clear HB; have HO343 := n0_; have BK344 := n1_; have BK349 := n2_; have BK354 := n3_; have BK357 := n4_; have HB := n5_; clear n0_ n1_ n2_ n3_ n4_ n5_; (try clear hb); (try clear hb2); (try clear hk); (try clear hi)))
   go_ret
   exact ⟨by first | rfl | (simp [errW_none, errW_some] <;> rfl) | (simp only [← hji28]; first | rfl | (simp [errW_none, errW_some] <;> rfl)) | (simp [*, errW_none, errW_some] <;> rfl), xh HB⟩
 ·
  rw [if_neg c6] at H
  have c6b0 : (t345 == 0) = false := beq_eq_false_iff_ne.mpr c6
  have c6b1 : (t345 != 0) = true := bne_iff_ne.mpr c6
  replace H := Option.bind_eq_some_iff.mp H
  obtain ⟨t346, A680, H⟩ := H
  replace H : (some t346) = some r := H
  have A68 := am A680
  clear A680
  obtain rfl := Option.some.inj H
  go_enter Try.func8, Try.ntmps8
  go_wp2_with (first | ((with_reducible refine gate_callee (f := 9) rfl ?_); refine goesL_ (some 13) rfl rfl Try.func9 (by kernel_rfl) rfl #[.slice A0 l0.length c0, .int .i64 0, .int .i64 0] rfl xv ?_; (with_reducible refine (minecontrollaw07_made.calls k _ _ l0 0 0 t338 t339 t340 t341 _ ?side1 ?side2 A4.out).mono ?_); (case side1 => exact xc HR0); (case side2 => exact HC0.out); rintro e w69 ⟨v342, rfl, ho0, hb⟩; refine ⟨_, rfl, ?_⟩; have n0_ := am (Kd.R_lower ho0 (below_size (xh HB))); have n1_ := am (below_step (xh HB) hb); clear HB; have HO343 := n0_; have HB := n1_; clear n0_ n1_; (try clear hb); (try clear hb2); (try clear hk); (try clear hi); (try clear ho0)) | ((with_reducible refine gate_dst (N := 7) rfl ?_); refine xbox 7 (cs := #[.int .i64 0, .bool false, .bool false, .slice none 0 0]) (t := 25) ?_; intro gb344 hg w70 hbox hb; have n0_ := am (Kd.R_below (xk HO343) hb); have n1_ := am (below_step (xh HB) hb); have n2_ := am (hbox); have n3_ := am (xs hg HB); have n4_ := am (xs hg HB); clear HO343; clear HB; have HO343 := n0_; have HB := n1_; have BK344 := n2_; have GW344 := n3_; have GE344 := n4_; clear n0_ n1_ n2_ n3_ n4_; clear hb hbox hg; have hcz71_0 : w70.cell? ⟨gb344, 0, none⟩ = some (.int .i64 0) := (blk_cell BK344.out 0).trans rfl; have hcz71_1 : w70.cell? ⟨gb344, 1, none⟩ = some (.bool false) := (blk_cell BK344.out 1).trans rfl; have hcz71_2 : w70.cell? ⟨gb344, 2, none⟩ = some (.bool false) := (blk_cell BK344.out 2).trans rfl; have hcz71_3 : w70.cell? ⟨gb344, 3, none⟩ = some (.slice none 0 0) := (blk_cell BK344.out 3).trans rfl; have hfz71_0 := blk_frozen BK344.out 0; have hfz71_1 := blk_frozen BK344.out 1; have hfz71_2 := blk_frozen BK344.out 2; have hfz71_3 := blk_frozen BK344.out 3; obtain ⟨Ao72, co72, eo72⟩ := Kd.R_slice HO343.out; subst eo72) | ((with_reducible refine gate_callee (f := 11) rfl ?_); refine goesL_ (some 15) rfl rfl Try.func11 (by kernel_rfl) rfl #[.agg #[.int .i64 t338, .bool t339, .bool t340, .slice Ao72 t341.length co72]] rfl xv ?_; (with_reducible refine (minecontrolref07_Check.calls k t338 t339 t340 _ _ t341 t345 _ ?side1 ?side2 A5.out).mono ?_); (case side1 => refine (Kd.R_reads' (e := 42) (base := w.heap.size) (ok := fun k_ => True) (n := t341.length) (c := co72) ?_).2.2; exact (by (with_reducible repeat (first | apply Kd.R_alloc | apply Kd.R_drewN | apply Kd.R_drew)); exact (Kd.R_mono (Kd.R_far (p := ⟨gb344, 3, none⟩) (Kd.R_far (p := ⟨gb344, 2, none⟩) (Kd.R_far (p := ⟨gb344, 1, none⟩) (Kd.R_far (p := ⟨gb344, 0, none⟩) (Kd.R_types HO343.out BK344.out (by decide)) (fun _ hk => hk.2) (.int .i64 t338)) (fun _ hk => hk.2) (.bool t339)) (fun _ hk => hk.2) (.bool t340)) (fun _ hk => hk.2) (.slice Ao72 t341.length co72)) (fun _ h_ => h_.1)))); (case side2 => exact (Kd.R_reads' HO343.out).2.1); rintro e w73 ⟨rfl, hb⟩; refine ⟨_, rfl, ?_⟩; have n0_ := am (Kd.R_below (by (with_reducible repeat (first | apply Kd.R_alloc | apply Kd.R_drewN | apply Kd.R_drew)); exact (Kd.R_mono (Kd.R_far (p := ⟨gb344, 3, none⟩) (Kd.R_far (p := ⟨gb344, 2, none⟩) (Kd.R_far (p := ⟨gb344, 1, none⟩) (Kd.R_far (p := ⟨gb344, 0, none⟩) (Kd.R_types HO343.out BK344.out (by decide)) (fun _ hk => hk.2) (.int .i64 t338)) (fun _ hk => hk.2) (.bool t339)) (fun _ hk => hk.2) (.bool t340)) (fun _ hk => hk.2) (.slice Ao72 t341.length co72)) (fun _ h_ => h_.1))) hb); have n1_ := am (blk_below (g := gb344) (o := .cells #[.int .i64 t338, .bool t339, .bool t340, .slice Ao72 t341.length co72] 25 (0, 0)) (by (with_reducible repeat (first | refine blk_drewN ?_ _ | refine blk_drew ?_ | refine blk_alloc ?_ _)); refine blk_put (cs := #[.int .i64 t338, .bool t339, .bool t340, .slice none 0 0]) ?_ 3 _ rfl; (with_reducible repeat (first | refine blk_drewN ?_ _ | refine blk_drew ?_ | refine blk_alloc ?_ _)); refine blk_put (cs := #[.int .i64 t338, .bool t339, .bool false, .slice none 0 0]) ?_ 2 _ rfl; (with_reducible repeat (first | refine blk_drewN ?_ _ | refine blk_drew ?_ | refine blk_alloc ?_ _)); refine blk_put (cs := #[.int .i64 t338, .bool false, .bool false, .slice none 0 0]) ?_ 1 _ rfl; (with_reducible repeat (first | refine blk_drewN ?_ _ | refine blk_drew ?_ | refine blk_alloc ?_ _)); refine blk_put (cs := #[.int .i64 0, .bool false, .bool false, .slice none 0 0]) ?_ 0 _ rfl; (with_reducible repeat (first | refine blk_drewN ?_ _ | refine blk_drew ?_ | refine blk_alloc ?_ _)); exact BK344.out) hb); have n2_ := am (below_step (xh HB) hb); clear HO343; clear BK344; clear HB; have HO343 := n0_; have BK344 := n1_; have HB := n2_; clear n0_ n1_ n2_; (try clear hb); (try clear hb2); (try clear hk); (try clear hi)) | ((with_reducible refine gate_callee (f := 12) rfl ?_); refine goesL_ (some 17) rfl rfl Try.func12 (by kernel_rfl) rfl #[] rfl xv ?_; (with_reducible refine (minecontrollaw07_awake.calls k  t346 _ A68.out).mono ?_); rintro e w74 ⟨rfl, hb⟩; refine ⟨_, rfl, ?_⟩; have n0_ := am (Kd.R_below (xk HO343) hb); have n1_ := am (xw BK344 hb); have n2_ := am (below_step (xh HB) hb); clear HO343; clear BK344; clear HB; have HO343 := n0_; have BK344 := n1_; have HB := n2_; clear n0_ n1_ n2_; (try clear hb); (try clear hb2); (try clear hk); (try clear hi)))
  go_ret
  exact ⟨by first | rfl | (simp [errW_none, errW_some] <;> rfl) | (simp [*, errW_none, errW_some] <;> rfl), xh HB⟩

/-- THE ONE PURE STATEMENT of minecontrollaw07_FanPoints: yours. -/
def minecontrollaw07_FanPoints.Pure : Prop := ∀ (l0 : List Int) (a1 : Int) (a2 : Int), l0.length ≤ maxLen → l0.length * 1 ≤ 140737488351232 → (∀ x ∈ l0, (Lit.int .u8 x).wf = true) → (Lit.int .i64 a1).wf = true → (Lit.int .u8 a2).wf = true → ∃ k, minecontrollaw07_FanPoints.f k l0 a1 a2 = some true
theorem minecontrollaw07_FanPoints.walk (P : minecontrollaw07_FanPoints.Pure) (a0 : Option Addr) (len0 cap0 : Nat) (z0 : List Int) (a1 : Int) (a2 : Int) (w : World) (w0 : (a0 = none ∧ len0 = 0 ∧ cap0 = 0 ∧ z0 = []) ∨ ∃ x, a0 = some x ∧ len0 ≤ cap0 ∧ cap0 ≤ maxLen ∧ z0.length = cap0 ∧ (∀ i, i < z0.length → w.cell? (x.add i) = some (.int .u8 (z0.getD i 0))) ∧ ∀ n ∈ z0, (Lit.int .u8 n).wf = true) (y0 : len0 * 1 ≤ 140737488351232) (w1 : (Lit.int .i64 a1).wf = true) (w2 : (Lit.int .u8 a2).wf = true) :
  Calls Try.prog 8 #[.slice a0 len0 cap0, .int .i64 a1, .int .u8 a2] w fun e w' => e = .returned (.bool true) ∧ Below w.heap.size w w' := by
 obtain ⟨l0, rfl, hr0, hm0, hw0, hc0⟩ := ReadsInt.ofRowC w0
 obtain ⟨k, h⟩ := P l0 a1 a2 hm0 y0 hw0 w1 w2
 refine (minecontrollaw07_FanPoints.calls k _ _ l0 a1 a2 true w (Kd.C_of_reads (d := (0 : Int)) (h1 := fun _ => rfl) hr0) hc0 h).mono ?_
 rintro e w' ⟨rfl, hd⟩
 exact ⟨rfl, hd⟩

end Go.Proofs.Ytbiempkdfnfpgaa.PA
