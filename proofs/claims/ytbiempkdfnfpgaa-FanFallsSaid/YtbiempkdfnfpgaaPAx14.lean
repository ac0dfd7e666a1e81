-- written by a program of this session, a changed copy of the kit print
import Derived.Test.YtbiempkdfnfpgaaPAx0
import Derived.Test.YtbiempkdfnfpgaaPAx2
import Derived.Test.YtbiempkdfnfpgaaPAx3
import Derived.Test.YtbiempkdfnfpgaaPAx5
import Derived.Test.YtbiempkdfnfpgaaPAx9
import Derived.Test.YtbiempkdfnfpgaaQ
namespace Go.Proofs.Ytbiempkdfnfpgaa.PA
open Go.RowKit Go.Proofs.YtbiempkdfnfpgaaW.PrintWords Go.Proofs.YtbiempkdfnfpgaaW.PrintLast Go.Proofs.YtbiempkdfnfpgaaW.PrintMore Go.Proofs.Ytbiempkdfnfpgaa.Q
attribute [local go_sem] Instr.field asAgg part isAgg max2_int min2_int max_two min_two max_three min_three max_four min_four   -- for this text's walks alone
set_option linter.unusedVariables false
set_option linter.unusedSimpArgs false

/-! ### minecontrollaw07_FanFalls: function 6 -/
def minecontrollaw07_FanFalls.f (k : Nat) (l0 : List Int) (a1 : Int) (a2 : Int) (a3 : Int) : Option (Bool) := (minecontrollaw07_made.f k l0 0 0).bind fun bt293 => ((minecontrolref07_Check.f k bt293.1 bt293.2.1 bt293.2.2.1 bt293.2.2.2).bind fun t300 => (if t300 = 0 then ((minecontroldraw_Mod.f a1 400).bind fun t302 => ((fan_At.f k bt293.1 bt293.2.1 bt293.2.2.1 bt293.2.2.2 (wrap64 ((Int.tmod (wrap64 (a3)) 4) - 1)) (wrap64 (t302 - 200))).bind fun bt303 => ((fan_At.f k bt293.1 bt293.2.1 bt293.2.2.1 bt293.2.2.2 (wrap64 ((Int.tmod (wrap64 (a3)) 4) - 1)) (wrap64 ((wrap64 (t302 - 200)) + (wrap64 (a2))))).bind fun bt305 => (if bt303.1 ≤ bt303.2 then (if (wrap64 (bt303.2 - bt303.1)) ≥ 0 then (if bt305.1 ≤ bt303.1 then (if bt305.2 ≤ bt303.2 then ((minecontrollaw07_awake.f k).bind fun t309 => (some t309)) else (none)) else (none)) else (none)) else (none))))) else ((minecontrollaw07_awake.f k).bind fun t301 => (some t301))))
theorem minecontrollaw07_FanFalls.mono : ∀ a0 a1 a2 a3 k, LeO (minecontrollaw07_FanFalls.f k a0 a1 a2 a3) (minecontrollaw07_FanFalls.f (k + 1) a0 a1 a2 a3) := by
 intro a0 a1 a2 a3 k
 unfold minecontrollaw07_FanFalls.f
 repeat' first
   | (with_reducible exact fan_At.mono _ _ _ _ _ _ _)
   | (with_reducible exact minecontrollaw07_awake.mono _)
   | (with_reducible exact minecontrollaw07_made.mono _ _ _ _)
   | (with_reducible exact minecontrolref07_Check.mono _ _ _ _ _)
   | (with_reducible exact LeO.refl _)
   | (with_reducible exact LeO.none _)
   | (with_reducible refine LeO.ite ?_ ?_)
   | (with_reducible refine LeO.bind ?_ (fun _ => ?_))
   | exact fan_At.mono _ _ _ _ _ _ _
   | exact minecontrollaw07_awake.mono _
   | exact minecontrollaw07_made.mono _ _ _ _
   | exact minecontrolref07_Check.mono _ _ _ _ _
   | exact LeO.none _
   | refine LeO.ite ?_ ?_
   | refine LeO.bind ?_ (fun _ => ?_)
def minecontrollaw07_FanFalls.T5 : Bool × List (List Nat × List Nat) := (true, [([], []), ([], []), ([], []), ([0, 1, 2], [0, 1, 2]), ([], []), ([], []), ([], []), ([], []), ([7], [7]), ([6, 8], [6, 8]), ([4, 5, 9, 3], [4, 5, 9]), ([], []), ([], []), ([11, 3, 10, 0, 1, 2, 3, 11, 12], [3, 11]), ([12, 10, 13, 0, 1, 2, 3, 4, 5, 6, 7, 8, 9, 10, 11, 12, 13], [10, 12])])
def minecontrollaw07_FanFalls.B5 : List Nat := [0, 0, 0, 7, 0, 0, 0, 0, 128, 448, 1023, 0, 0, 8191, 16383]
theorem minecontrollaw07_FanFalls.tab5 : rtab .any (opsOf Try.f6 5) = minecontrollaw07_FanFalls.T5 := by kernel_rfl
theorem minecontrollaw07_FanFalls.bits5 : waitsOk minecontrollaw07_FanFalls.T5.2 minecontrollaw07_FanFalls.B5 = true := by kernel_rfl
set_option maxHeartbeats 8000000 in
set_option maxRecDepth 100000 in
theorem minecontrollaw07_FanFalls.calls (k : Nat) (A0 : Option Addr) (c0 : Nat) (l0 : List Int) (a1 : Int) (a2 : Int) (a3 : Int) (r : Bool) (w : World) (hr0 : Kd.C (Kd.int .u8) w A0 l0.length l0) (hc0 : l0.length ≤ c0) (h : minecontrollaw07_FanFalls.f k l0 a1 a2 a3 = some r) :
  Calls Try.prog 6 #[.slice A0 l0.length c0, .int .i64 a1, .int .u8 a2, .int .u8 a3] w fun e w' => e = .returned (.bool r) ∧ Below w.heap.size w w' := by
 have hu25 := Try.underlying25
 have hu34 := Try.underlying34
 have HR0 := am hr0
 have HC0 := am hc0
 clear hr0 hc0
 have HB := am (Below.refl w.heap.size w)
 have H : ((minecontrollaw07_made.f k l0 0 0).bind fun bt293 => ((minecontrolref07_Check.f k bt293.1 bt293.2.1 bt293.2.2.1 bt293.2.2.2).bind fun t300 => (if t300 = 0 then ((minecontroldraw_Mod.f a1 400).bind fun t302 => ((fan_At.f k bt293.1 bt293.2.1 bt293.2.2.1 bt293.2.2.2 (wrap64 ((Int.tmod (wrap64 (a3)) 4) - 1)) (wrap64 (t302 - 200))).bind fun bt303 => ((fan_At.f k bt293.1 bt293.2.1 bt293.2.2.1 bt293.2.2.2 (wrap64 ((Int.tmod (wrap64 (a3)) 4) - 1)) (wrap64 ((wrap64 (t302 - 200)) + (wrap64 (a2))))).bind fun bt305 => (if bt303.1 ≤ bt303.2 then (if (wrap64 (bt303.2 - bt303.1)) ≥ 0 then (if bt305.1 ≤ bt303.1 then (if bt305.2 ≤ bt303.2 then ((minecontrollaw07_awake.f k).bind fun t309 => (some t309)) else (none)) else (none)) else (none)) else (none))))) else ((minecontrollaw07_awake.f k).bind fun t301 => (some t301))))) = some r := h
 clear h
 replace H := Option.bind_eq_some_iff.mp H
 obtain ⟨⟨t293, t294, t295, t296⟩, A50, H⟩ := H
 replace H : ((minecontrolref07_Check.f k t293 t294 t295 t296).bind fun t300 => (if t300 = 0 then ((minecontroldraw_Mod.f a1 400).bind fun t302 => ((fan_At.f k t293 t294 t295 t296 (wrap64 ((Int.tmod (wrap64 (a3)) 4) - 1)) (wrap64 (t302 - 200))).bind fun bt303 => ((fan_At.f k t293 t294 t295 t296 (wrap64 ((Int.tmod (wrap64 (a3)) 4) - 1)) (wrap64 ((wrap64 (t302 - 200)) + (wrap64 (a2))))).bind fun bt305 => (if bt303.1 ≤ bt303.2 then (if (wrap64 (bt303.2 - bt303.1)) ≥ 0 then (if bt305.1 ≤ bt303.1 then (if bt305.2 ≤ bt303.2 then ((minecontrollaw07_awake.f k).bind fun t309 => (some t309)) else (none)) else (none)) else (none)) else (none))))) else ((minecontrollaw07_awake.f k).bind fun t301 => (some t301)))) = some r := H
 have A5 := am A50
 clear A50
 replace H := Option.bind_eq_some_iff.mp H
 obtain ⟨t300, A60, H⟩ := H
 replace H : (if t300 = 0 then ((minecontroldraw_Mod.f a1 400).bind fun t302 => ((fan_At.f k t293 t294 t295 t296 (wrap64 ((Int.tmod (wrap64 (a3)) 4) - 1)) (wrap64 (t302 - 200))).bind fun bt303 => ((fan_At.f k t293 t294 t295 t296 (wrap64 ((Int.tmod (wrap64 (a3)) 4) - 1)) (wrap64 ((wrap64 (t302 - 200)) + (wrap64 (a2))))).bind fun bt305 => (if bt303.1 ≤ bt303.2 then (if (wrap64 (bt303.2 - bt303.1)) ≥ 0 then (if bt305.1 ≤ bt303.1 then (if bt305.2 ≤ bt303.2 then ((minecontrollaw07_awake.f k).bind fun t309 => (some t309)) else (none)) else (none)) else (none)) else (none))))) else ((minecontrollaw07_awake.f k).bind fun t301 => (some t301))) = some r := H
 have A6 := am A60
 clear A60
 by_cases c7 : t300 = 0
 ·
  rw [if_pos c7] at H
  have c7b0 : (t300 == 0) = true := beq_iff_eq.mpr c7
  have c7b1 : (t300 != 0) = false := bne_eq_false_iff_eq.mpr c7
  clear c7
  replace H := Option.bind_eq_some_iff.mp H
  obtain ⟨t302, A80, H⟩ := H
  replace H : ((fan_At.f k t293 t294 t295 t296 (wrap64 ((Int.tmod (wrap64 (a3)) 4) - 1)) (wrap64 (t302 - 200))).bind fun bt303 => ((fan_At.f k t293 t294 t295 t296 (wrap64 ((Int.tmod (wrap64 (a3)) 4) - 1)) (wrap64 ((wrap64 (t302 - 200)) + (wrap64 (a2))))).bind fun bt305 => (if bt303.1 ≤ bt303.2 then (if (wrap64 (bt303.2 - bt303.1)) ≥ 0 then (if bt305.1 ≤ bt303.1 then (if bt305.2 ≤ bt303.2 then ((minecontrollaw07_awake.f k).bind fun t309 => (some t309)) else (none)) else (none)) else (none)) else (none)))) = some r := H
  have A8 := am A80
  clear A80
  replace H := Option.bind_eq_some_iff.mp H
  obtain ⟨⟨t303, t304⟩, A90, H⟩ := H
  replace H : ((fan_At.f k t293 t294 t295 t296 (wrap64 ((Int.tmod (wrap64 (a3)) 4) - 1)) (wrap64 ((wrap64 (t302 - 200)) + (wrap64 (a2))))).bind fun bt305 => (if t303 ≤ t304 then (if (wrap64 (t304 - t303)) ≥ 0 then (if bt305.1 ≤ t303 then (if bt305.2 ≤ t304 then ((minecontrollaw07_awake.f k).bind fun t309 => (some t309)) else (none)) else (none)) else (none)) else (none))) = some r := H
  have A9 := am A90
  clear A90
  replace H := Option.bind_eq_some_iff.mp H
  obtain ⟨⟨t305, t306⟩, A100, H⟩ := H
  replace H : (if t303 ≤ t304 then (if (wrap64 (t304 - t303)) ≥ 0 then (if t305 ≤ t303 then (if t306 ≤ t304 then ((minecontrollaw07_awake.f k).bind fun t309 => (some t309)) else (none)) else (none)) else (none)) else (none)) = some r := H
  have A10 := am A100
  clear A100
  by_cases c11 : t303 ≤ t304
  rotate_left
  · rw [if_neg c11] at H; exact absurd H (by simp)
  rw [if_pos c11] at H
  have c11b0 : decide (t303 ≤ t304) = true := decide_eq_true c11
  clear c11
  by_cases c12 : (wrap64 (t304 - t303)) ≥ 0
  rotate_left
  · rw [if_neg c12] at H; exact absurd H (by simp)
  rw [if_pos c12] at H
  have c12b0 : decide (0 ≤ (wrap64 (t304 - t303))) = true := decide_eq_true c12
  clear c12
  by_cases c13 : t305 ≤ t303
  rotate_left
  · rw [if_neg c13] at H; exact absurd H (by simp)
  rw [if_pos c13] at H
  have c13b0 : decide (t305 ≤ t303) = true := decide_eq_true c13
  clear c13
  by_cases c14 : t306 ≤ t304
  rotate_left
  · rw [if_neg c14] at H; exact absurd H (by simp)
  rw [if_pos c14] at H
  have c14b0 : decide (t306 ≤ t304) = true := decide_eq_true c14
  clear c14
  replace H := Option.bind_eq_some_iff.mp H
  obtain ⟨t309, A150, H⟩ := H
  replace H : (some t309) = some r := H
  have A15 := am A150
  clear A150
  obtain rfl := Option.some.inj H
  go_enter Try.func6, Try.ntmps6
  try go_wp2_with (first | ((with_reducible refine gate_callee (f := 9) rfl ?_); refine goesL_ (some 15) rfl rfl Try.func9 (by kernel_rfl) rfl #[.slice A0 l0.length c0, .int .i64 0, .int .i64 0] rfl xv ?_; (with_reducible refine (minecontrollaw07_made.calls k _ _ l0 0 0 t293 t294 t295 t296 _ ?side1 ?side2 A5.out).mono ?_); (case side1 => exact xc HR0); (case side2 => exact HC0.out); rintro e w16 ⟨v297, rfl, ho0, hb⟩; refine ⟨_, rfl, ?_⟩; have n0_ := am (Kd.R_lower ho0 (below_size (xh HB))); have n1_ := am (below_step (xh HB) hb); clear HB; have HO298 := n0_; have HB := n1_; clear n0_ n1_; (try clear hb); (try clear hb2); (try clear hk); (try clear hi); (try clear ho0)) | ((with_reducible refine gate_dst (N := 9) rfl ?_); refine xbox 9 (cs := #[.int .i64 0, .bool false, .bool false, .slice none 0 0]) (t := 25) ?_; intro gb299 hg w17 hbox hb; have n0_ := am (Kd.R_below (xk HO298) hb); have n1_ := am (below_step (xh HB) hb); have n2_ := am (hbox); have n3_ := am (xs hg HB); have n4_ := am (xs hg HB); clear HO298; clear HB; have HO298 := n0_; have HB := n1_; have BK299 := n2_; have GW299 := n3_; have GE299 := n4_; clear n0_ n1_ n2_ n3_ n4_; clear hb hbox hg; have hcz18_0 : w17.cell? ⟨gb299, 0, none⟩ = some (.int .i64 0) := (blk_cell BK299.out 0).trans rfl; have hcz18_1 : w17.cell? ⟨gb299, 1, none⟩ = some (.bool false) := (blk_cell BK299.out 1).trans rfl; have hcz18_2 : w17.cell? ⟨gb299, 2, none⟩ = some (.bool false) := (blk_cell BK299.out 2).trans rfl; have hcz18_3 : w17.cell? ⟨gb299, 3, none⟩ = some (.slice none 0 0) := (blk_cell BK299.out 3).trans rfl; have hfz18_0 := blk_frozen BK299.out 0; have hfz18_1 := blk_frozen BK299.out 1; have hfz18_2 := blk_frozen BK299.out 2; have hfz18_3 := blk_frozen BK299.out 3; obtain ⟨Ao19, co19, eo19⟩ := Kd.R_slice HO298.out; subst eo19) | ((with_reducible refine gate_callee (f := 11) rfl ?_); refine goesL_ (some 17) rfl rfl Try.func11 (by kernel_rfl) rfl #[.agg #[.int .i64 t293, .bool t294, .bool t295, .slice Ao19 t296.length co19]] rfl xv ?_; (with_reducible refine (minecontrolref07_Check.calls k t293 t294 t295 _ _ t296 t300 _ ?side1 ?side2 A6.out).mono ?_); (case side1 => refine (Kd.R_reads' (e := 42) (base := w.heap.size) (ok := fun k_ => True) (n := t296.length) (c := co19) ?_).2.2; exact (by (with_reducible repeat (first | apply Kd.R_alloc | apply Kd.R_drewN | apply Kd.R_drew)); exact (Kd.R_mono (Kd.R_far (p := ⟨gb299, 3, none⟩) (Kd.R_far (p := ⟨gb299, 2, none⟩) (Kd.R_far (p := ⟨gb299, 1, none⟩) (Kd.R_far (p := ⟨gb299, 0, none⟩) (Kd.R_types HO298.out BK299.out (by decide)) (fun _ hk => hk.2) (.int .i64 t293)) (fun _ hk => hk.2) (.bool t294)) (fun _ hk => hk.2) (.bool t295)) (fun _ hk => hk.2) (.slice Ao19 t296.length co19)) (fun _ h_ => h_.1)))); (case side2 => exact (Kd.R_reads' HO298.out).2.1); rintro e w20 ⟨rfl, hb⟩; refine ⟨_, rfl, ?_⟩; have n0_ := am (Kd.R_below (by (with_reducible repeat (first | apply Kd.R_alloc | apply Kd.R_drewN | apply Kd.R_drew)); exact (Kd.R_mono (Kd.R_far (p := ⟨gb299, 3, none⟩) (Kd.R_far (p := ⟨gb299, 2, none⟩) (Kd.R_far (p := ⟨gb299, 1, none⟩) (Kd.R_far (p := ⟨gb299, 0, none⟩) (Kd.R_types HO298.out BK299.out (by decide)) (fun _ hk => hk.2) (.int .i64 t293)) (fun _ hk => hk.2) (.bool t294)) (fun _ hk => hk.2) (.bool t295)) (fun _ hk => hk.2) (.slice Ao19 t296.length co19)) (fun _ h_ => h_.1))) hb); have n1_ := am (blk_below (g := gb299) (o := .cells #[.int .i64 t293, .bool t294, .bool t295, .slice Ao19 t296.length co19] 25 (0, 0)) (by (with_reducible repeat (first | refine blk_drewN ?_ _ | refine blk_drew ?_ | refine blk_alloc ?_ _)); refine blk_put (cs := #[.int .i64 t293, .bool t294, .bool t295, .slice none 0 0]) ?_ 3 _ rfl; (with_reducible repeat (first | refine blk_drewN ?_ _ | refine blk_drew ?_ | refine blk_alloc ?_ _)); refine blk_put (cs := #[.int .i64 t293, .bool t294, .bool false, .slice none 0 0]) ?_ 2 _ rfl; (with_reducible repeat (first | refine blk_drewN ?_ _ | refine blk_drew ?_ | refine blk_alloc ?_ _)); refine blk_put (cs := #[.int .i64 t293, .bool false, .bool false, .slice none 0 0]) ?_ 1 _ rfl; (with_reducible repeat (first | refine blk_drewN ?_ _ | refine blk_drew ?_ | refine blk_alloc ?_ _)); refine blk_put (cs := #[.int .i64 0, .bool false, .bool false, .slice none 0 0]) ?_ 0 _ rfl; (with_reducible repeat (first | refine blk_drewN ?_ _ | refine blk_drew ?_ | refine blk_alloc ?_ _)); exact BK299.out) hb); have n2_ := am (below_step (xh HB) hb); clear HO298; clear BK299; clear HB; have HO298 := n0_; have BK299 := n1_; have HB := n2_; clear n0_ n1_ n2_; (try clear hb); (try clear hb2); (try clear hk); (try clear hi)) | ((with_reducible refine gate_callee (f := 13) rfl ?_); refine goesL_ (some 21) rfl rfl Try.func13 (by kernel_rfl) rfl #[.int .i64 a1, .int .i64 400] rfl xv ?_; (with_reducible refine (minecontroldraw_Mod.calls a1 400 t302 _ A8.out).mono ?_); rintro e w' ⟨rfl, ⟨nd, rfl⟩⟩; refine ⟨_, rfl, ?_⟩; (try (rw [drewN_self w20]; generalize hq_ : World.drewN w20 _ = w20; have n0_ : Aside0 (Kd.R k42 42 w20 w.heap.size (fun _ => True) (.slice Ao19 t296.length co19) t296) := ⟨by rw [← hq_]; exact (xk HO298)⟩; have n1_ : Aside0 (w20.heap[gb299]? = some (.cells #[.int .i64 t293, .bool t294, .bool t295, .slice Ao19 t296.length co19] 25 (0, 0))) := ⟨by rw [← hq_]; exact (xb BK299)⟩; have n2_ : Aside0 (Below w.heap.size w w20) := ⟨by rw [← hq_]; exact (xh HB)⟩; clear HO298 BK299 HB hq_; have HO298 := n0_; have BK299 := n1_; have HB := n2_; clear n0_ n1_ n2_))))
  have n0_ := am (Kd.R_drew HO298.out)
  have n1_ := am (blk_drew BK299.out)
  have n2_ := am (below_drew1 HB.out)
  clear HO298
  clear BK299
  clear HB
  have HO298 := n0_
  have BK299 := n1_
  have HB := n2_
  clear n0_ n1_ n2_
  refine start_ (n := 15) (S := fun w' => w'.cell? ⟨gb299, 0, none⟩ = some (.int .i64 t293) ∧ w'.cell? ⟨gb299, 1, none⟩ = some (.bool t294) ∧ w'.cell? ⟨gb299, 2, none⟩ = some (.bool t295) ∧ w'.cell? ⟨gb299, 3, none⟩ = some (.slice Ao19 t296.length co19)) (ds := []) #[false, false, false, false, false, false, false, false, false, false, false, false, false, false, false] (by kernel_rfl) rfl rfl ⟨(blk_cell BK299.out 0).trans rfl, (blk_cell BK299.out 1).trans rfl, (blk_cell BK299.out 2).trans rfl, (blk_cell BK299.out 3).trans rfl⟩ (fun hHeld => ?_); refine with_tabW minecontrollaw07_FanFalls.tab5 minecontrollaw07_FanFalls.bits5 (fun HT_ HW_ => ?_)
  generalize w20.drew = w21 at HO298 BK299 HB hHeld ⊢
  refine pure_ (i := 1) (N := some 28) (v := ?_) (a' := ?_) #[false, true, false, false, false, false, false, false, false, false, false, false, false, false, false] rfl rfl (any_of HT_.out (by kernel_rfl)) (fun _ _ _ h => h) (Or.inl ⟨by rfl, ?_⟩) ?_ ?_
  rotate_left
  ·
   intro w'
   go_simp
   with_reducible rfl
  rotate_left
  ·
   simp only [Act.put, List.setIfInBounds_toArray, List.set_cons_zero, List.set_cons_succ, i64_w, i32_w]
   rfl
  refine pure_ (i := 2) (N := some 29) (v := ?_) (a' := ?_) #[false, true, true, false, false, false, false, false, false, false, false, false, false, false, false] rfl rfl (any_of HT_.out (by kernel_rfl)) (fun _ _ _ h => h) (Or.inl ⟨by rfl, ?_⟩) ?_ ?_
  rotate_left
  ·
   intro w'
   go_simp
   with_reducible rfl
  rotate_left
  ·
   simp only [Act.put, List.setIfInBounds_toArray, List.set_cons_zero, List.set_cons_succ, i64_w, i32_w]
   rfl
  refine pure_ (i := 5) (N := some 32) (v := ?_) (a' := ?_) #[false, true, true, false, false, true, false, false, false, false, false, false, false, false, false] rfl rfl (any_of HT_.out (by kernel_rfl)) (fun _ _ _ h => h) (Or.inl ⟨by rfl, ?_⟩) ?_ ?_
  rotate_left
  ·
   intro w'
   go_simp
   with_reducible rfl
  rotate_left
  ·
   simp only [Act.put, List.setIfInBounds_toArray, List.set_cons_zero, List.set_cons_succ, i64_w, i32_w]
   rfl
  refine pure_ (i := 6) (N := some 33) (v := ?_) (a' := ?_) #[false, true, true, false, false, true, true, false, false, false, false, false, false, false, false] rfl rfl (any_of HT_.out (by kernel_rfl)) (fun _ _ _ h => h) (Or.inl ⟨by rfl, ?_⟩) ?_ ?_
  rotate_left
  ·
   intro w'
   go_simp
   with_reducible rfl
  rotate_left
  ·
   simp only [Act.put, List.setIfInBounds_toArray, List.set_cons_zero, List.set_cons_succ, i64_w, i32_w]
   rfl
  refine pure_ (i := 7) (N := some 34) (v := ?_) (a' := ?_) #[false, true, true, false, false, true, true, true, false, false, false, false, false, false, false] rfl rfl (any_of HT_.out (by kernel_rfl)) (fun _ _ _ h => h) (Or.inl ⟨by rfl, ?_⟩) ?_ ?_
  rotate_left
  ·
   intro w'
   go_simp
   with_reducible rfl
  rotate_left
  ·
   simp only [Act.put, List.setIfInBounds_toArray, List.set_cons_zero, List.set_cons_succ, i64_w, i32_w]
   rfl
  refine pure_ (i := 8) (N := some 35) (v := ?_) (a' := ?_) #[false, true, true, false, false, true, true, true, true, false, false, false, false, false, false] rfl rfl (any_of HT_.out (by kernel_rfl)) (fun _ _ _ h => h) (Or.inl ⟨by rfl, ?_⟩) ?_ ?_
  rotate_left
  ·
   intro w'
   go_simp
   with_reducible rfl
  rotate_left
  ·
   simp only [Act.put, List.setIfInBounds_toArray, List.set_cons_zero, List.set_cons_succ, i64_w, i32_w]
   rfl
  refine pure_ (i := 9) (N := some 36) (v := ?_) (a' := ?_) #[false, true, true, false, false, true, true, true, true, true, false, false, false, false, false] rfl rfl (any_of HT_.out (by kernel_rfl)) (fun _ _ _ h => h) (Or.inl ⟨by rfl, ?_⟩) ?_ ?_
  rotate_left
  ·
   intro w'
   go_simp
   with_reducible rfl
  rotate_left
  ·
   simp only [Act.put, List.setIfInBounds_toArray, List.set_cons_zero, List.set_cons_succ, i64_w, i32_w]
   rfl
  refine take_ (i := 0) (N := some 27) (v := ?_) (a' := ?_) #[true, true, true, false, false, true, true, true, true, true, false, false, false, false, false] rfl rfl (take_ofW HT_.out HW_.out (by kernel_rfl)) (fun _ _ _ h => h) (Or.inl ⟨by rfl, ?_⟩) hHeld ?_ ?_
  rotate_left
  ·
   rintro w' ⟨s0, s1, s2, s3⟩
   go_simp
   with_reducible rfl
  rotate_left
  ·
   simp only [Act.put, List.setIfInBounds_toArray, List.set_cons_zero, List.set_cons_succ, i64_w, i32_w]
   rfl
  refine take_ (i := 4) (N := some 31) (v := ?_) (a' := ?_) #[true, true, true, false, true, true, true, true, true, true, false, false, false, false, false] rfl rfl (take_ofW HT_.out HW_.out (by kernel_rfl)) (fun _ _ _ h => h) (Or.inl ⟨by rfl, ?_⟩) hHeld ?_ ?_
  rotate_left
  ·
   rintro w' ⟨s0, s1, s2, s3⟩
   go_simp
   with_reducible rfl
  rotate_left
  ·
   simp only [Act.put, List.setIfInBounds_toArray, List.set_cons_zero, List.set_cons_succ, i64_w, i32_w]
   rfl
  refine join_ (σ := Nat × Nat) 2 #[true, true, true, true, true, true, true, true, true, true, true, true, true, false, false] (fun s_ => [(30, .agg #[.int .i64 t303, .int .i64 t304]), (37, .agg #[.int .i64 t305, .int .i64 t306]), (12, .pointer (some ⟨s_.1, 0, none⟩)), (13, .pointer (some ⟨s_.2, 0, none⟩))]) (fun s_ w' => (w'.cell? ⟨gb299, 0, none⟩ = some (.int .i64 t293) ∧ w'.cell? ⟨gb299, 1, none⟩ = some (.bool t294) ∧ w'.cell? ⟨gb299, 2, none⟩ = some (.bool t295) ∧ w'.cell? ⟨gb299, 3, none⟩ = some (.slice Ao19 t296.length co19)) ∧ (Kd.R k42 42 w' w.heap.size (fun _ => True) (.slice Ao19 t296.length co19) t296) ∧ (w'.heap[gb299]? = some (.cells #[.int .i64 t293, .bool t294, .bool t295, .slice Ao19 t296.length co19] 25 (0, 0))) ∧ (w'.heap[s_.1]? = some (.cells #[.int .i64 0, .int .i64 0] 34 (0, 0))) ∧ (w'.heap[s_.2]? = some (.cells #[.int .i64 0, .int .i64 0] 34 (0, 0))) ∧ (w.heap.size ≤ s_.1) ∧ (w.heap.size ≤ s_.1) ∧ (gb299 ≠ s_.1) ∧ (s_.1 ≠ gb299) ∧ (s_.2 ≠ s_.1) ∧ (s_.1 ≠ s_.2) ∧ (w.heap.size ≤ s_.2) ∧ (w.heap.size ≤ s_.2) ∧ (gb299 ≠ s_.2) ∧ (s_.2 ≠ gb299) ∧ (Below w.heap.size w w')) ?_ ?_
  rotate_left
  ·
   intro hJ3_10_11_12
   refine join_ (σ := Nat) 3 #[true, true, true, true, true, true, true, true, true, true, true, true, false, false, false] (fun s_ => [(30, .agg #[.int .i64 t303, .int .i64 t304]), (37, .agg #[.int .i64 t305, .int .i64 t306]), (12, .pointer (some ⟨s_, 0, none⟩))]) (fun s_ w' => (w'.cell? ⟨gb299, 0, none⟩ = some (.int .i64 t293) ∧ w'.cell? ⟨gb299, 1, none⟩ = some (.bool t294) ∧ w'.cell? ⟨gb299, 2, none⟩ = some (.bool t295) ∧ w'.cell? ⟨gb299, 3, none⟩ = some (.slice Ao19 t296.length co19)) ∧ (Kd.R k42 42 w' w.heap.size (fun _ => True) (.slice Ao19 t296.length co19) t296) ∧ (w'.heap[gb299]? = some (.cells #[.int .i64 t293, .bool t294, .bool t295, .slice Ao19 t296.length co19] 25 (0, 0))) ∧ (w'.heap[s_]? = some (.cells #[.int .i64 0, .int .i64 0] 34 (0, 0))) ∧ (w.heap.size ≤ s_) ∧ (w.heap.size ≤ s_) ∧ (gb299 ≠ s_) ∧ (s_ ≠ gb299) ∧ (Below w.heap.size w w')) ?_ ?_
   rotate_left
   ·
    intro hJ3_10_11
    refine join_ (σ := Nat) 3 #[true, true, true, true, true, true, true, true, true, true, true, false, true, false, false] (fun s_ => [(30, .agg #[.int .i64 t303, .int .i64 t304]), (37, .agg #[.int .i64 t305, .int .i64 t306]), (13, .pointer (some ⟨s_, 0, none⟩))]) (fun s_ w' => (w'.cell? ⟨gb299, 0, none⟩ = some (.int .i64 t293) ∧ w'.cell? ⟨gb299, 1, none⟩ = some (.bool t294) ∧ w'.cell? ⟨gb299, 2, none⟩ = some (.bool t295) ∧ w'.cell? ⟨gb299, 3, none⟩ = some (.slice Ao19 t296.length co19)) ∧ (Kd.R k42 42 w' w.heap.size (fun _ => True) (.slice Ao19 t296.length co19) t296) ∧ (w'.heap[gb299]? = some (.cells #[.int .i64 t293, .bool t294, .bool t295, .slice Ao19 t296.length co19] 25 (0, 0))) ∧ (w'.heap[s_]? = some (.cells #[.int .i64 0, .int .i64 0] 34 (0, 0))) ∧ (w.heap.size ≤ s_) ∧ (w.heap.size ≤ s_) ∧ (gb299 ≠ s_) ∧ (s_ ≠ gb299) ∧ (Below w.heap.size w w')) ?_ ?_
    rotate_left
    ·
     intro hJ3_10_12
     refine join_ (σ := Nat × Nat) 3 #[true, true, true, true, true, true, true, true, true, true, false, true, true, false, false] (fun s_ => [(30, .agg #[.int .i64 t303, .int .i64 t304]), (12, .pointer (some ⟨s_.1, 0, none⟩)), (13, .pointer (some ⟨s_.2, 0, none⟩))]) (fun s_ w' => (w'.cell? ⟨gb299, 0, none⟩ = some (.int .i64 t293) ∧ w'.cell? ⟨gb299, 1, none⟩ = some (.bool t294) ∧ w'.cell? ⟨gb299, 2, none⟩ = some (.bool t295) ∧ w'.cell? ⟨gb299, 3, none⟩ = some (.slice Ao19 t296.length co19)) ∧ (Kd.R k42 42 w' w.heap.size (fun _ => True) (.slice Ao19 t296.length co19) t296) ∧ (w'.heap[gb299]? = some (.cells #[.int .i64 t293, .bool t294, .bool t295, .slice Ao19 t296.length co19] 25 (0, 0))) ∧ (w'.heap[s_.1]? = some (.cells #[.int .i64 0, .int .i64 0] 34 (0, 0))) ∧ (w'.heap[s_.2]? = some (.cells #[.int .i64 0, .int .i64 0] 34 (0, 0))) ∧ (w.heap.size ≤ s_.1) ∧ (w.heap.size ≤ s_.1) ∧ (gb299 ≠ s_.1) ∧ (s_.1 ≠ gb299) ∧ (s_.2 ≠ s_.1) ∧ (s_.1 ≠ s_.2) ∧ (w.heap.size ≤ s_.2) ∧ (w.heap.size ≤ s_.2) ∧ (gb299 ≠ s_.2) ∧ (s_.2 ≠ gb299) ∧ (Below w.heap.size w w')) ?_ ?_
     rotate_left
     ·
      intro hJ3_11_12
      refine join_ (σ := Unit) 4 #[true, true, true, true, true, true, true, true, true, true, true, false, false, false, false] (fun s_ => [(30, .agg #[.int .i64 t303, .int .i64 t304]), (37, .agg #[.int .i64 t305, .int .i64 t306])]) (fun s_ w' => (w'.cell? ⟨gb299, 0, none⟩ = some (.int .i64 t293) ∧ w'.cell? ⟨gb299, 1, none⟩ = some (.bool t294) ∧ w'.cell? ⟨gb299, 2, none⟩ = some (.bool t295) ∧ w'.cell? ⟨gb299, 3, none⟩ = some (.slice Ao19 t296.length co19)) ∧ (Kd.R k42 42 w' w.heap.size (fun _ => True) (.slice Ao19 t296.length co19) t296) ∧ (w'.heap[gb299]? = some (.cells #[.int .i64 t293, .bool t294, .bool t295, .slice Ao19 t296.length co19] 25 (0, 0))) ∧ (Below w.heap.size w w')) ?_ ?_
      rotate_left
      ·
       intro hJ3_10
       refine join_ (σ := Nat) 4 #[true, true, true, true, true, true, true, true, true, true, false, true, false, false, false] (fun s_ => [(30, .agg #[.int .i64 t303, .int .i64 t304]), (12, .pointer (some ⟨s_, 0, none⟩))]) (fun s_ w' => (w'.cell? ⟨gb299, 0, none⟩ = some (.int .i64 t293) ∧ w'.cell? ⟨gb299, 1, none⟩ = some (.bool t294) ∧ w'.cell? ⟨gb299, 2, none⟩ = some (.bool t295) ∧ w'.cell? ⟨gb299, 3, none⟩ = some (.slice Ao19 t296.length co19)) ∧ (Kd.R k42 42 w' w.heap.size (fun _ => True) (.slice Ao19 t296.length co19) t296) ∧ (w'.heap[gb299]? = some (.cells #[.int .i64 t293, .bool t294, .bool t295, .slice Ao19 t296.length co19] 25 (0, 0))) ∧ (w'.heap[s_]? = some (.cells #[.int .i64 0, .int .i64 0] 34 (0, 0))) ∧ (w.heap.size ≤ s_) ∧ (w.heap.size ≤ s_) ∧ (gb299 ≠ s_) ∧ (s_ ≠ gb299) ∧ (Below w.heap.size w w')) ?_ ?_
       rotate_left
       ·
        intro hJ3_11
        refine join_ (σ := Nat) 4 #[true, true, true, true, true, true, true, true, true, true, false, false, true, false, false] (fun s_ => [(30, .agg #[.int .i64 t303, .int .i64 t304]), (13, .pointer (some ⟨s_, 0, none⟩))]) (fun s_ w' => (w'.cell? ⟨gb299, 0, none⟩ = some (.int .i64 t293) ∧ w'.cell? ⟨gb299, 1, none⟩ = some (.bool t294) ∧ w'.cell? ⟨gb299, 2, none⟩ = some (.bool t295) ∧ w'.cell? ⟨gb299, 3, none⟩ = some (.slice Ao19 t296.length co19)) ∧ (Kd.R k42 42 w' w.heap.size (fun _ => True) (.slice Ao19 t296.length co19) t296) ∧ (w'.heap[gb299]? = some (.cells #[.int .i64 t293, .bool t294, .bool t295, .slice Ao19 t296.length co19] 25 (0, 0))) ∧ (w'.heap[s_]? = some (.cells #[.int .i64 0, .int .i64 0] 34 (0, 0))) ∧ (w.heap.size ≤ s_) ∧ (w.heap.size ≤ s_) ∧ (gb299 ≠ s_) ∧ (s_ ≠ gb299) ∧ (Below w.heap.size w w')) ?_ ?_
        rotate_left
        ·
         intro hJ3_12
         refine join_ (σ := Nat × Nat) 4 #[true, true, true, false, true, true, true, true, true, true, false, true, true, false, false] (fun s_ => [(12, .pointer (some ⟨s_.1, 0, none⟩)), (13, .pointer (some ⟨s_.2, 0, none⟩))]) (fun s_ w' => (w'.cell? ⟨gb299, 0, none⟩ = some (.int .i64 t293) ∧ w'.cell? ⟨gb299, 1, none⟩ = some (.bool t294) ∧ w'.cell? ⟨gb299, 2, none⟩ = some (.bool t295) ∧ w'.cell? ⟨gb299, 3, none⟩ = some (.slice Ao19 t296.length co19)) ∧ (Kd.R k42 42 w' w.heap.size (fun _ => True) (.slice Ao19 t296.length co19) t296) ∧ (w'.heap[gb299]? = some (.cells #[.int .i64 t293, .bool t294, .bool t295, .slice Ao19 t296.length co19] 25 (0, 0))) ∧ (w'.heap[s_.1]? = some (.cells #[.int .i64 0, .int .i64 0] 34 (0, 0))) ∧ (w'.heap[s_.2]? = some (.cells #[.int .i64 0, .int .i64 0] 34 (0, 0))) ∧ (w.heap.size ≤ s_.1) ∧ (w.heap.size ≤ s_.1) ∧ (gb299 ≠ s_.1) ∧ (s_.1 ≠ gb299) ∧ (s_.2 ≠ s_.1) ∧ (s_.1 ≠ s_.2) ∧ (w.heap.size ≤ s_.2) ∧ (w.heap.size ≤ s_.2) ∧ (gb299 ≠ s_.2) ∧ (s_.2 ≠ gb299) ∧ (Below w.heap.size w w')) ?_ ?_
         rotate_left
         ·
          intro hJ11_12
          refine join_ (σ := Unit) 5 #[true, true, true, true, true, true, true, true, true, true, false, false, false, false, false] (fun s_ => [(30, .agg #[.int .i64 t303, .int .i64 t304])]) (fun s_ w' => (w'.cell? ⟨gb299, 0, none⟩ = some (.int .i64 t293) ∧ w'.cell? ⟨gb299, 1, none⟩ = some (.bool t294) ∧ w'.cell? ⟨gb299, 2, none⟩ = some (.bool t295) ∧ w'.cell? ⟨gb299, 3, none⟩ = some (.slice Ao19 t296.length co19)) ∧ (Kd.R k42 42 w' w.heap.size (fun _ => True) (.slice Ao19 t296.length co19) t296) ∧ (w'.heap[gb299]? = some (.cells #[.int .i64 t293, .bool t294, .bool t295, .slice Ao19 t296.length co19] 25 (0, 0))) ∧ (Below w.heap.size w w')) ?_ ?_
          rotate_left
          ·
           intro hJ3
           refine join_ (σ := Nat) 5 #[true, true, true, false, true, true, true, true, true, true, false, true, false, false, false] (fun s_ => [(12, .pointer (some ⟨s_, 0, none⟩))]) (fun s_ w' => (w'.cell? ⟨gb299, 0, none⟩ = some (.int .i64 t293) ∧ w'.cell? ⟨gb299, 1, none⟩ = some (.bool t294) ∧ w'.cell? ⟨gb299, 2, none⟩ = some (.bool t295) ∧ w'.cell? ⟨gb299, 3, none⟩ = some (.slice Ao19 t296.length co19)) ∧ (Kd.R k42 42 w' w.heap.size (fun _ => True) (.slice Ao19 t296.length co19) t296) ∧ (w'.heap[gb299]? = some (.cells #[.int .i64 t293, .bool t294, .bool t295, .slice Ao19 t296.length co19] 25 (0, 0))) ∧ (w'.heap[s_]? = some (.cells #[.int .i64 0, .int .i64 0] 34 (0, 0))) ∧ (w.heap.size ≤ s_) ∧ (w.heap.size ≤ s_) ∧ (gb299 ≠ s_) ∧ (s_ ≠ gb299) ∧ (Below w.heap.size w w')) ?_ ?_
           rotate_left
           ·
            intro hJ11
            refine join_ (σ := Nat) 5 #[true, true, true, false, true, true, true, true, true, true, false, false, true, false, false] (fun s_ => [(13, .pointer (some ⟨s_, 0, none⟩))]) (fun s_ w' => (w'.cell? ⟨gb299, 0, none⟩ = some (.int .i64 t293) ∧ w'.cell? ⟨gb299, 1, none⟩ = some (.bool t294) ∧ w'.cell? ⟨gb299, 2, none⟩ = some (.bool t295) ∧ w'.cell? ⟨gb299, 3, none⟩ = some (.slice Ao19 t296.length co19)) ∧ (Kd.R k42 42 w' w.heap.size (fun _ => True) (.slice Ao19 t296.length co19) t296) ∧ (w'.heap[gb299]? = some (.cells #[.int .i64 t293, .bool t294, .bool t295, .slice Ao19 t296.length co19] 25 (0, 0))) ∧ (w'.heap[s_]? = some (.cells #[.int .i64 0, .int .i64 0] 34 (0, 0))) ∧ (w.heap.size ≤ s_) ∧ (w.heap.size ≤ s_) ∧ (gb299 ≠ s_) ∧ (s_ ≠ gb299) ∧ (Below w.heap.size w w')) ?_ ?_
            rotate_left
            ·
             intro hJ12
             refine three_ (i := 3) (j := 11) (k := 12) (Ni := some 30) (Nj := some 12) (Nk := some 13) #[true, true, true, true, true, true, true, true, true, true, false, false, false, false, false] #[true, true, true, false, true, true, true, true, true, true, false, true, false, false, false] #[true, true, true, false, true, true, true, true, true, true, false, false, true, false, false] rfl rfl rfl rfl rfl rfl (three_of HT_.out (by kernel_rfl)) (by decide) (by decide) (by decide) (fun K hK => ?_) (fun K hK => ?_) (fun K hK => ?_)
             ·
              skip
              refine goes_ Try.func16 (by kernel_rfl) rfl #[.agg #[.int .i64 t293, .bool t294, .bool t295, .slice Ao19 t296.length co19], .int .i64 (wrap64 ((Int.tmod (wrap64 (a3)) 4) - 1)), .int .i64 (wrap64 (t302 - 200))] (by rfl) rfl rfl xv ?_
              with_reducible refine (fan_At.calls k t293 t294 t295 _ _ t296 (wrap64 ((Int.tmod (wrap64 (a3)) 4) - 1)) (wrap64 (t302 - 200)) t303 t304 _ ?side1 ?side2 A9.out).mono ?_
              (case side1 => repeat (first | exact (Kd.R_reads' HO298.out).2.2 | (with_reducible refine Kd.C_alloc ?_ _) | (with_reducible refine Kd.C_drewN ?_ _) | (with_reducible refine Kd.C_drew ?_)))
              (case side2 => exact (Kd.R_reads' HO298.out).2.1)
              rintro e w22 ⟨rfl, hb⟩
              refine ⟨_, rfl, ?_⟩
              have n0_ := am (Kd.R_below (xk HO298) hb)
              have n1_ := am (xw BK299 hb)
              have n2_ := am (below_step (xh HB) hb)
              clear HO298
              clear BK299
              clear HB
              have HO298 := n0_
              have BK299 := n1_
              have HB := n2_
              clear n0_ n1_ n2_
              (try clear hb)
              (try clear hb2)
              (try clear hk)
              (try clear hi)
              refine hK.out _ _ ⟨(blk_cell BK299.out 0).trans rfl, (blk_cell BK299.out 1).trans rfl, (blk_cell BK299.out 2).trans rfl, (blk_cell BK299.out 3).trans rfl⟩ (fun hHeld => ?_)
              clear hK K
              refine norm_ (a' := ?_) ?_ ?_
              rotate_left
              ·
               show Act.put _ (some 30) _ = _
               simp only [Act.put, List.setIfInBounds_toArray, List.set_cons_zero, List.set_cons_succ, i64_w, i32_w]
               rfl
              exact xn (hJ3 () _ ⟨hHeld, (xk HO298), (xb BK299), (xh HB)⟩)
             ·
              skip
              refine box_step ?hg (N := 12) ?hd (cs := #[.int .i64 0, .int .i64 0]) (t := 34) ?hr ?_; (case hd => rfl); (case hg => rfl); (case hr => first | (go_simp; done) | (go_simp; rfl))
              intro gb307 hg w22 hbox hb
              have n0_ := am (Kd.R_below (xk HO298) hb)
              have n1_ := am (xw BK299 hb)
              have n2_ := am (below_step (xh HB) hb)
              have n3_ := am (hbox)
              have n4_ := am (xs hg HB)
              have n5_ := am (xs hg HB)
              have n6_ := am (xnl hg BK299)
              have n7_ := am (xng hg BK299)
              clear HO298
              clear BK299
              clear HB
              have HO298 := n0_
              have BK299 := n1_
              have HB := n2_
              have BK307 := n3_
              have GW307 := n4_
              have GE307 := n5_
              have NB299_307 := n6_
              have NB307_299 := n7_
              clear n0_ n1_ n2_ n3_ n4_ n5_ n6_ n7_
              clear hb hbox hg
              refine hK.out _ _ ⟨(blk_cell BK299.out 0).trans rfl, (blk_cell BK299.out 1).trans rfl, (blk_cell BK299.out 2).trans rfl, (blk_cell BK299.out 3).trans rfl⟩ (fun hHeld => ?_)
              clear hK K
              refine norm_ (a' := ?_) ?_ ?_
              rotate_left
              ·
               show Act.put _ (some 12) _ = _
               simp only [Act.put, List.setIfInBounds_toArray, List.set_cons_zero, List.set_cons_succ, i64_w, i32_w]
               rfl
              exact xn (hJ11 (gb307) _ ⟨hHeld, (xk HO298), (xb BK299), (xb BK307), GW307.out, GE307.out, NB299_307.out, NB307_299.out, (xh HB)⟩)
             ·
              skip
              refine box_step ?hg (N := 13) ?hd (cs := #[.int .i64 0, .int .i64 0]) (t := 34) ?hr ?_; (case hd => rfl); (case hg => rfl); (case hr => first | (go_simp; done) | (go_simp; rfl))
              intro gb308 hg w22 hbox hb
              have n0_ := am (Kd.R_below (xk HO298) hb)
              have n1_ := am (xw BK299 hb)
              have n2_ := am (below_step (xh HB) hb)
              have n3_ := am (hbox)
              have n4_ := am (xs hg HB)
              have n5_ := am (xs hg HB)
              have n6_ := am (xnl hg BK299)
              have n7_ := am (xng hg BK299)
              clear HO298
              clear BK299
              clear HB
              have HO298 := n0_
              have BK299 := n1_
              have HB := n2_
              have BK308 := n3_
              have GW308 := n4_
              have GE308 := n5_
              have NB299_308 := n6_
              have NB308_299 := n7_
              clear n0_ n1_ n2_ n3_ n4_ n5_ n6_ n7_
              clear hb hbox hg
              refine hK.out _ _ ⟨(blk_cell BK299.out 0).trans rfl, (blk_cell BK299.out 1).trans rfl, (blk_cell BK299.out 2).trans rfl, (blk_cell BK299.out 3).trans rfl⟩ (fun hHeld => ?_)
              clear hK K
              refine norm_ (a' := ?_) ?_ ?_
              rotate_left
              ·
               show Act.put _ (some 13) _ = _
               simp only [Act.put, List.setIfInBounds_toArray, List.set_cons_zero, List.set_cons_succ, i64_w, i32_w]
               rfl
              exact xn (hJ12 (gb308) _ ⟨hHeld, (xk HO298), (xb BK299), (xb BK308), GW308.out, GE308.out, NB299_308.out, NB308_299.out, (xh HB)⟩)
            ·
             skip
             rintro gb308 w23 ⟨hS_, h0_, h1_, h2_, h3_, h4_, h5_, h6_, h7_⟩
             have n0_ : Aside0 (Kd.R k42 42 w23 w.heap.size (fun _ => True) (.slice Ao19 t296.length co19) t296) := ⟨h0_⟩
             have n1_ : Aside0 (w23.heap[gb299]? = some (.cells #[.int .i64 t293, .bool t294, .bool t295, .slice Ao19 t296.length co19] 25 (0, 0))) := ⟨h1_⟩
             have n2_ : Aside0 (w23.heap[gb308]? = some (.cells #[.int .i64 0, .int .i64 0] 34 (0, 0))) := ⟨h2_⟩
             have n3_ : Aside0 (w.heap.size ≤ gb308) := ⟨h3_⟩
             have n4_ : Aside0 (w.heap.size ≤ gb308) := ⟨h4_⟩
             have n5_ : Aside0 (gb299 ≠ gb308) := ⟨h5_⟩
             have n6_ : Aside0 (gb308 ≠ gb299) := ⟨h6_⟩
             have n7_ : Aside0 (Below w.heap.size w w23) := ⟨h7_⟩
             clear HO298
             clear BK299
             clear HB
             clear h0_ h1_ h2_ h3_ h4_ h5_ h6_ h7_
             have HO298 := n0_
             have BK299 := n1_
             have BK308 := n2_
             have GW308 := n3_
             have GE308 := n4_
             have NB299_308 := n5_
             have NB308_299 := n6_
             have HB := n7_
             clear n0_ n1_ n2_ n3_ n4_ n5_ n6_ n7_
             have hHeld : w23.cell? ⟨gb299, 0, none⟩ = some (.int .i64 t293) ∧ w23.cell? ⟨gb299, 1, none⟩ = some (.bool t294) ∧ w23.cell? ⟨gb299, 2, none⟩ = some (.bool t295) ∧ w23.cell? ⟨gb299, 3, none⟩ = some (.slice Ao19 t296.length co19) := hS_
             refine norm_ (a' := ?_) ?_ ?_
             rotate_left
             ·
              simp only [putAll, Act.put, List.setIfInBounds_toArray, List.set_cons_zero, List.set_cons_succ]
              rfl
             refine two_ (i := 3) (j := 11) (Ni := some 30) (Nj := some 12) #[true, true, true, true, true, true, true, true, true, true, false, false, true, false, false] #[true, true, true, false, true, true, true, true, true, true, false, true, true, false, false] rfl rfl rfl rfl (two_of HT_.out (by kernel_rfl)) (by decide) (by decide) (fun K hK => ?_) (fun K hK => ?_)
             ·
              skip
              refine goes_ Try.func16 (by kernel_rfl) rfl #[.agg #[.int .i64 t293, .bool t294, .bool t295, .slice Ao19 t296.length co19], .int .i64 (wrap64 ((Int.tmod (wrap64 (a3)) 4) - 1)), .int .i64 (wrap64 (t302 - 200))] (by rfl) rfl rfl xv ?_
              with_reducible refine (fan_At.calls k t293 t294 t295 _ _ t296 (wrap64 ((Int.tmod (wrap64 (a3)) 4) - 1)) (wrap64 (t302 - 200)) t303 t304 _ ?side1 ?side2 A9.out).mono ?_
              (case side1 => repeat (first | exact (Kd.R_reads' HO298.out).2.2 | (with_reducible refine Kd.C_alloc ?_ _) | (with_reducible refine Kd.C_drewN ?_ _) | (with_reducible refine Kd.C_drew ?_)))
              (case side2 => exact (Kd.R_reads' HO298.out).2.1)
              rintro e w24 ⟨rfl, hb⟩
              refine ⟨_, rfl, ?_⟩
              have n0_ := am (Kd.R_below (xk HO298) hb)
              have n1_ := am (xw BK299 hb)
              have n2_ := am (xw BK308 hb)
              have n3_ := am (below_step (xh HB) hb)
              clear HO298
              clear BK299
              clear BK308
              clear HB
              have HO298 := n0_
              have BK299 := n1_
              have BK308 := n2_
              have HB := n3_
              clear n0_ n1_ n2_ n3_
              (try clear hb)
              (try clear hb2)
              (try clear hk)
              (try clear hi)
              refine hK.out _ _ ⟨(blk_cell BK299.out 0).trans rfl, (blk_cell BK299.out 1).trans rfl, (blk_cell BK299.out 2).trans rfl, (blk_cell BK299.out 3).trans rfl⟩ (fun hHeld => ?_)
              clear hK K
              refine norm_ (a' := ?_) ?_ ?_
              rotate_left
              ·
               show Act.put _ (some 30) _ = _
               simp only [Act.put, List.setIfInBounds_toArray, List.set_cons_zero, List.set_cons_succ, i64_w, i32_w]
               rfl
              exact xn (hJ3_12 (gb308) _ ⟨hHeld, (xk HO298), (xb BK299), (xb BK308), GW308.out, GE308.out, NB299_308.out, NB308_299.out, (xh HB)⟩)
             ·
              skip
              refine box_step ?hg (N := 12) ?hd (cs := #[.int .i64 0, .int .i64 0]) (t := 34) ?hr ?_; (case hd => rfl); (case hg => rfl); (case hr => first | (go_simp; done) | (go_simp; rfl))
              intro gb307 hg w24 hbox hb
              have n0_ := am (Kd.R_below (xk HO298) hb)
              have n1_ := am (xw BK299 hb)
              have n2_ := am (xw BK308 hb)
              have n3_ := am (below_step (xh HB) hb)
              have n4_ := am (hbox)
              have n5_ := am (xs hg HB)
              have n6_ := am (xs hg HB)
              have n7_ := am (xnl hg BK299)
              have n8_ := am (xng hg BK299)
              have n9_ := am (xnl hg BK308)
              have n10_ := am (xng hg BK308)
              clear HO298
              clear BK299
              clear BK308
              clear HB
              have HO298 := n0_
              have BK299 := n1_
              have BK308 := n2_
              have HB := n3_
              have BK307 := n4_
              have GW307 := n5_
              have GE307 := n6_
              have NB299_307 := n7_
              have NB307_299 := n8_
              have NB308_307 := n9_
              have NB307_308 := n10_
              clear n0_ n1_ n2_ n3_ n4_ n5_ n6_ n7_ n8_ n9_ n10_
              clear hb hbox hg
              refine hK.out _ _ ⟨(blk_cell BK299.out 0).trans rfl, (blk_cell BK299.out 1).trans rfl, (blk_cell BK299.out 2).trans rfl, (blk_cell BK299.out 3).trans rfl⟩ (fun hHeld => ?_)
              clear hK K
              refine norm_ (a' := ?_) ?_ ?_
              rotate_left
              ·
               show Act.put _ (some 12) _ = _
               simp only [Act.put, List.setIfInBounds_toArray, List.set_cons_zero, List.set_cons_succ, i64_w, i32_w]
               rfl
              exact xn (hJ11_12 (gb307, gb308) _ ⟨hHeld, (xk HO298), (xb BK299), (xb BK307), (xb BK308), GW307.out, GE307.out, NB299_307.out, NB307_299.out, NB308_307.out, NB307_308.out, GW308.out, GE308.out, NB299_308.out, NB308_299.out, (xh HB)⟩)
           ·
            skip
            rintro gb307 w23 ⟨hS_, h0_, h1_, h2_, h3_, h4_, h5_, h6_, h7_⟩
            have n0_ : Aside0 (Kd.R k42 42 w23 w.heap.size (fun _ => True) (.slice Ao19 t296.length co19) t296) := ⟨h0_⟩
            have n1_ : Aside0 (w23.heap[gb299]? = some (.cells #[.int .i64 t293, .bool t294, .bool t295, .slice Ao19 t296.length co19] 25 (0, 0))) := ⟨h1_⟩
            have n2_ : Aside0 (w23.heap[gb307]? = some (.cells #[.int .i64 0, .int .i64 0] 34 (0, 0))) := ⟨h2_⟩
            have n3_ : Aside0 (w.heap.size ≤ gb307) := ⟨h3_⟩
            have n4_ : Aside0 (w.heap.size ≤ gb307) := ⟨h4_⟩
            have n5_ : Aside0 (gb299 ≠ gb307) := ⟨h5_⟩
            have n6_ : Aside0 (gb307 ≠ gb299) := ⟨h6_⟩
            have n7_ : Aside0 (Below w.heap.size w w23) := ⟨h7_⟩
            clear HO298
            clear BK299
            clear HB
            clear h0_ h1_ h2_ h3_ h4_ h5_ h6_ h7_
            have HO298 := n0_
            have BK299 := n1_
            have BK307 := n2_
            have GW307 := n3_
            have GE307 := n4_
            have NB299_307 := n5_
            have NB307_299 := n6_
            have HB := n7_
            clear n0_ n1_ n2_ n3_ n4_ n5_ n6_ n7_
            have hHeld : w23.cell? ⟨gb299, 0, none⟩ = some (.int .i64 t293) ∧ w23.cell? ⟨gb299, 1, none⟩ = some (.bool t294) ∧ w23.cell? ⟨gb299, 2, none⟩ = some (.bool t295) ∧ w23.cell? ⟨gb299, 3, none⟩ = some (.slice Ao19 t296.length co19) := hS_
            refine norm_ (a' := ?_) ?_ ?_
            rotate_left
            ·
             simp only [putAll, Act.put, List.setIfInBounds_toArray, List.set_cons_zero, List.set_cons_succ]
             rfl
            refine two_ (i := 3) (j := 12) (Ni := some 30) (Nj := some 13) #[true, true, true, true, true, true, true, true, true, true, false, true, false, false, false] #[true, true, true, false, true, true, true, true, true, true, false, true, true, false, false] rfl rfl rfl rfl (two_of HT_.out (by kernel_rfl)) (by decide) (by decide) (fun K hK => ?_) (fun K hK => ?_)
            ·
             skip
             refine goes_ Try.func16 (by kernel_rfl) rfl #[.agg #[.int .i64 t293, .bool t294, .bool t295, .slice Ao19 t296.length co19], .int .i64 (wrap64 ((Int.tmod (wrap64 (a3)) 4) - 1)), .int .i64 (wrap64 (t302 - 200))] (by rfl) rfl rfl xv ?_
             with_reducible refine (fan_At.calls k t293 t294 t295 _ _ t296 (wrap64 ((Int.tmod (wrap64 (a3)) 4) - 1)) (wrap64 (t302 - 200)) t303 t304 _ ?side1 ?side2 A9.out).mono ?_
             (case side1 => repeat (first | exact (Kd.R_reads' HO298.out).2.2 | (with_reducible refine Kd.C_alloc ?_ _) | (with_reducible refine Kd.C_drewN ?_ _) | (with_reducible refine Kd.C_drew ?_)))
             (case side2 => exact (Kd.R_reads' HO298.out).2.1)
             rintro e w24 ⟨rfl, hb⟩
             refine ⟨_, rfl, ?_⟩
             have n0_ := am (Kd.R_below (xk HO298) hb)
             have n1_ := am (xw BK299 hb)
             have n2_ := am (xw BK307 hb)
             have n3_ := am (below_step (xh HB) hb)
             clear HO298
             clear BK299
             clear BK307
             clear HB
             have HO298 := n0_
             have BK299 := n1_
             have BK307 := n2_
             have HB := n3_
             clear n0_ n1_ n2_ n3_
             (try clear hb)
             (try clear hb2)
             (try clear hk)
             (try clear hi)
             refine hK.out _ _ ⟨(blk_cell BK299.out 0).trans rfl, (blk_cell BK299.out 1).trans rfl, (blk_cell BK299.out 2).trans rfl, (blk_cell BK299.out 3).trans rfl⟩ (fun hHeld => ?_)
             clear hK K
             refine norm_ (a' := ?_) ?_ ?_
             rotate_left
             ·
              show Act.put _ (some 30) _ = _
              simp only [Act.put, List.setIfInBounds_toArray, List.set_cons_zero, List.set_cons_succ, i64_w, i32_w]
              rfl
             exact xn (hJ3_11 (gb307) _ ⟨hHeld, (xk HO298), (xb BK299), (xb BK307), GW307.out, GE307.out, NB299_307.out, NB307_299.out, (xh HB)⟩)
            ·
             skip
             refine box_step ?hg (N := 13) ?hd (cs := #[.int .i64 0, .int .i64 0]) (t := 34) ?hr ?_; (case hd => rfl); (case hg => rfl); (case hr => first | (go_simp; done) | (go_simp; rfl))
             intro gb308 hg w24 hbox hb
             have n0_ := am (Kd.R_below (xk HO298) hb)
             have n1_ := am (xw BK299 hb)
             have n2_ := am (xw BK307 hb)
             have n3_ := am (below_step (xh HB) hb)
             have n4_ := am (hbox)
             have n5_ := am (xs hg HB)
             have n6_ := am (xs hg HB)
             have n7_ := am (xnl hg BK299)
             have n8_ := am (xng hg BK299)
             have n9_ := am (xnl hg BK307)
             have n10_ := am (xng hg BK307)
             clear HO298
             clear BK299
             clear BK307
             clear HB
             have HO298 := n0_
             have BK299 := n1_
             have BK307 := n2_
             have HB := n3_
             have BK308 := n4_
             have GW308 := n5_
             have GE308 := n6_
             have NB299_308 := n7_
             have NB308_299 := n8_
             have NB307_308 := n9_
             have NB308_307 := n10_
             clear n0_ n1_ n2_ n3_ n4_ n5_ n6_ n7_ n8_ n9_ n10_
             clear hb hbox hg
             refine hK.out _ _ ⟨(blk_cell BK299.out 0).trans rfl, (blk_cell BK299.out 1).trans rfl, (blk_cell BK299.out 2).trans rfl, (blk_cell BK299.out 3).trans rfl⟩ (fun hHeld => ?_)
             clear hK K
             refine norm_ (a' := ?_) ?_ ?_
             rotate_left
             ·
              show Act.put _ (some 13) _ = _
              simp only [Act.put, List.setIfInBounds_toArray, List.set_cons_zero, List.set_cons_succ, i64_w, i32_w]
              rfl
             exact xn (hJ11_12 (gb307, gb308) _ ⟨hHeld, (xk HO298), (xb BK299), (xb BK307), (xb BK308), GW307.out, GE307.out, NB299_307.out, NB307_299.out, NB308_307.out, NB307_308.out, GW308.out, GE308.out, NB299_308.out, NB308_299.out, (xh HB)⟩)
          ·
           skip
           rintro _ w23 ⟨hS_, h0_, h1_, h2_⟩
           have n0_ : Aside0 (Kd.R k42 42 w23 w.heap.size (fun _ => True) (.slice Ao19 t296.length co19) t296) := ⟨h0_⟩
           have n1_ : Aside0 (w23.heap[gb299]? = some (.cells #[.int .i64 t293, .bool t294, .bool t295, .slice Ao19 t296.length co19] 25 (0, 0))) := ⟨h1_⟩
           have n2_ : Aside0 (Below w.heap.size w w23) := ⟨h2_⟩
           clear HO298
           clear BK299
           clear HB
           clear h0_ h1_ h2_
           have HO298 := n0_
           have BK299 := n1_
           have HB := n2_
           clear n0_ n1_ n2_
           have hHeld : w23.cell? ⟨gb299, 0, none⟩ = some (.int .i64 t293) ∧ w23.cell? ⟨gb299, 1, none⟩ = some (.bool t294) ∧ w23.cell? ⟨gb299, 2, none⟩ = some (.bool t295) ∧ w23.cell? ⟨gb299, 3, none⟩ = some (.slice Ao19 t296.length co19) := hS_
           refine norm_ (a' := ?_) ?_ ?_
           rotate_left
           ·
            simp only [putAll, Act.put, List.setIfInBounds_toArray, List.set_cons_zero, List.set_cons_succ]
            rfl
           refine three_ (i := 10) (j := 11) (k := 12) (Ni := some 37) (Nj := some 12) (Nk := some 13) #[true, true, true, true, true, true, true, true, true, true, true, false, false, false, false] #[true, true, true, true, true, true, true, true, true, true, false, true, false, false, false] #[true, true, true, true, true, true, true, true, true, true, false, false, true, false, false] rfl rfl rfl rfl rfl rfl (three_of HT_.out (by kernel_rfl)) (by decide) (by decide) (by decide) (fun K hK => ?_) (fun K hK => ?_) (fun K hK => ?_)
           ·
            skip
            refine goes_ Try.func16 (by kernel_rfl) rfl #[.agg #[.int .i64 t293, .bool t294, .bool t295, .slice Ao19 t296.length co19], .int .i64 (wrap64 ((Int.tmod (wrap64 (a3)) 4) - 1)), .int .i64 (wrap64 ((wrap64 (t302 - 200)) + (wrap64 (a2))))] (by rfl) rfl rfl xv ?_
            with_reducible refine (fan_At.calls k t293 t294 t295 _ _ t296 (wrap64 ((Int.tmod (wrap64 (a3)) 4) - 1)) (wrap64 ((wrap64 (t302 - 200)) + (wrap64 (a2)))) t305 t306 _ ?side1 ?side2 A10.out).mono ?_
            (case side1 => repeat (first | exact (Kd.R_reads' HO298.out).2.2 | (with_reducible refine Kd.C_alloc ?_ _) | (with_reducible refine Kd.C_drewN ?_ _) | (with_reducible refine Kd.C_drew ?_)))
            (case side2 => exact (Kd.R_reads' HO298.out).2.1)
            rintro e w24 ⟨rfl, hb⟩
            refine ⟨_, rfl, ?_⟩
            have n0_ := am (Kd.R_below (xk HO298) hb)
            have n1_ := am (xw BK299 hb)
            have n2_ := am (below_step (xh HB) hb)
            clear HO298
            clear BK299
            clear HB
            have HO298 := n0_
            have BK299 := n1_
            have HB := n2_
            clear n0_ n1_ n2_
            (try clear hb)
            (try clear hb2)
            (try clear hk)
            (try clear hi)
            refine hK.out _ _ ⟨(blk_cell BK299.out 0).trans rfl, (blk_cell BK299.out 1).trans rfl, (blk_cell BK299.out 2).trans rfl, (blk_cell BK299.out 3).trans rfl⟩ (fun hHeld => ?_)
            clear hK K
            refine norm_ (a' := ?_) ?_ ?_
            rotate_left
            ·
             show Act.put _ (some 37) _ = _
             simp only [Act.put, List.setIfInBounds_toArray, List.set_cons_zero, List.set_cons_succ, i64_w, i32_w]
             rfl
            exact xn (hJ3_10 () _ ⟨hHeld, (xk HO298), (xb BK299), (xh HB)⟩)
           ·
            skip
            refine box_step ?hg (N := 12) ?hd (cs := #[.int .i64 0, .int .i64 0]) (t := 34) ?hr ?_; (case hd => rfl); (case hg => rfl); (case hr => first | (go_simp; done) | (go_simp; rfl))
            intro gb307 hg w24 hbox hb
            have n0_ := am (Kd.R_below (xk HO298) hb)
            have n1_ := am (xw BK299 hb)
            have n2_ := am (below_step (xh HB) hb)
            have n3_ := am (hbox)
            have n4_ := am (xs hg HB)
            have n5_ := am (xs hg HB)
            have n6_ := am (xnl hg BK299)
            have n7_ := am (xng hg BK299)
            clear HO298
            clear BK299
            clear HB
            have HO298 := n0_
            have BK299 := n1_
            have HB := n2_
            have BK307 := n3_
            have GW307 := n4_
            have GE307 := n5_
            have NB299_307 := n6_
            have NB307_299 := n7_
            clear n0_ n1_ n2_ n3_ n4_ n5_ n6_ n7_
            clear hb hbox hg
            refine hK.out _ _ ⟨(blk_cell BK299.out 0).trans rfl, (blk_cell BK299.out 1).trans rfl, (blk_cell BK299.out 2).trans rfl, (blk_cell BK299.out 3).trans rfl⟩ (fun hHeld => ?_)
            clear hK K
            refine norm_ (a' := ?_) ?_ ?_
            rotate_left
            ·
             show Act.put _ (some 12) _ = _
             simp only [Act.put, List.setIfInBounds_toArray, List.set_cons_zero, List.set_cons_succ, i64_w, i32_w]
             rfl
            exact xn (hJ3_11 (gb307) _ ⟨hHeld, (xk HO298), (xb BK299), (xb BK307), GW307.out, GE307.out, NB299_307.out, NB307_299.out, (xh HB)⟩)
           ·
            skip
            refine box_step ?hg (N := 13) ?hd (cs := #[.int .i64 0, .int .i64 0]) (t := 34) ?hr ?_; (case hd => rfl); (case hg => rfl); (case hr => first | (go_simp; done) | (go_simp; rfl))
            intro gb308 hg w24 hbox hb
            have n0_ := am (Kd.R_below (xk HO298) hb)
            have n1_ := am (xw BK299 hb)
            have n2_ := am (below_step (xh HB) hb)
            have n3_ := am (hbox)
            have n4_ := am (xs hg HB)
            have n5_ := am (xs hg HB)
            have n6_ := am (xnl hg BK299)
            have n7_ := am (xng hg BK299)
            clear HO298
            clear BK299
            clear HB
            have HO298 := n0_
            have BK299 := n1_
            have HB := n2_
            have BK308 := n3_
            have GW308 := n4_
            have GE308 := n5_
            have NB299_308 := n6_
            have NB308_299 := n7_
            clear n0_ n1_ n2_ n3_ n4_ n5_ n6_ n7_
            clear hb hbox hg
            refine hK.out _ _ ⟨(blk_cell BK299.out 0).trans rfl, (blk_cell BK299.out 1).trans rfl, (blk_cell BK299.out 2).trans rfl, (blk_cell BK299.out 3).trans rfl⟩ (fun hHeld => ?_)
            clear hK K
            refine norm_ (a' := ?_) ?_ ?_
            rotate_left
            ·
             show Act.put _ (some 13) _ = _
             simp only [Act.put, List.setIfInBounds_toArray, List.set_cons_zero, List.set_cons_succ, i64_w, i32_w]
             rfl
            exact xn (hJ3_12 (gb308) _ ⟨hHeld, (xk HO298), (xb BK299), (xb BK308), GW308.out, GE308.out, NB299_308.out, NB308_299.out, (xh HB)⟩)
         ·
          skip
          rintro ⟨gb307, gb308⟩ w24 ⟨hS_, h0_, h1_, h2_, h3_, h4_, h5_, h6_, h7_, h8_, h9_, h10_, h11_, h12_, h13_, h14_⟩
          have n0_ : Aside0 (Kd.R k42 42 w24 w.heap.size (fun _ => True) (.slice Ao19 t296.length co19) t296) := ⟨h0_⟩
          have n1_ : Aside0 (w24.heap[gb299]? = some (.cells #[.int .i64 t293, .bool t294, .bool t295, .slice Ao19 t296.length co19] 25 (0, 0))) := ⟨h1_⟩
          have n2_ : Aside0 (w24.heap[gb307]? = some (.cells #[.int .i64 0, .int .i64 0] 34 (0, 0))) := ⟨h2_⟩
          have n3_ : Aside0 (w24.heap[gb308]? = some (.cells #[.int .i64 0, .int .i64 0] 34 (0, 0))) := ⟨h3_⟩
          have n4_ : Aside0 (w.heap.size ≤ gb307) := ⟨h4_⟩
          have n5_ : Aside0 (w.heap.size ≤ gb307) := ⟨h5_⟩
          have n6_ : Aside0 (gb299 ≠ gb307) := ⟨h6_⟩
          have n7_ : Aside0 (gb307 ≠ gb299) := ⟨h7_⟩
          have n8_ : Aside0 (gb308 ≠ gb307) := ⟨h8_⟩
          have n9_ : Aside0 (gb307 ≠ gb308) := ⟨h9_⟩
          have n10_ : Aside0 (w.heap.size ≤ gb308) := ⟨h10_⟩
          have n11_ : Aside0 (w.heap.size ≤ gb308) := ⟨h11_⟩
          have n12_ : Aside0 (gb299 ≠ gb308) := ⟨h12_⟩
          have n13_ : Aside0 (gb308 ≠ gb299) := ⟨h13_⟩
          have n14_ : Aside0 (Below w.heap.size w w24) := ⟨h14_⟩
          clear HO298
          clear BK299
          clear HB
          clear h0_ h1_ h2_ h3_ h4_ h5_ h6_ h7_ h8_ h9_ h10_ h11_ h12_ h13_ h14_
          have HO298 := n0_
          have BK299 := n1_
          have BK307 := n2_
          have BK308 := n3_
          have GW307 := n4_
          have GE307 := n5_
          have NB299_307 := n6_
          have NB307_299 := n7_
          have NB308_307 := n8_
          have NB307_308 := n9_
          have GW308 := n10_
          have GE308 := n11_
          have NB299_308 := n12_
          have NB308_299 := n13_
          have HB := n14_
          clear n0_ n1_ n2_ n3_ n4_ n5_ n6_ n7_ n8_ n9_ n10_ n11_ n12_ n13_ n14_
          have hHeld : w24.cell? ⟨gb299, 0, none⟩ = some (.int .i64 t293) ∧ w24.cell? ⟨gb299, 1, none⟩ = some (.bool t294) ∧ w24.cell? ⟨gb299, 2, none⟩ = some (.bool t295) ∧ w24.cell? ⟨gb299, 3, none⟩ = some (.slice Ao19 t296.length co19) := hS_
          refine norm_ (a' := ?_) ?_ ?_
          rotate_left
          ·
           simp only [putAll, Act.put, List.setIfInBounds_toArray, List.set_cons_zero, List.set_cons_succ]
           rfl
          refine one_ (i := 3) (N := some 30) #[true, true, true, true, true, true, true, true, true, true, false, true, true, false, false] rfl rfl (one_of HT_.out (by kernel_rfl)) (by decide) (fun K hK => ?_)
          refine goes_ Try.func16 (by kernel_rfl) rfl #[.agg #[.int .i64 t293, .bool t294, .bool t295, .slice Ao19 t296.length co19], .int .i64 (wrap64 ((Int.tmod (wrap64 (a3)) 4) - 1)), .int .i64 (wrap64 (t302 - 200))] (by rfl) rfl rfl xv ?_
          with_reducible refine (fan_At.calls k t293 t294 t295 _ _ t296 (wrap64 ((Int.tmod (wrap64 (a3)) 4) - 1)) (wrap64 (t302 - 200)) t303 t304 _ ?side1 ?side2 A9.out).mono ?_
          (case side1 => repeat (first | exact (Kd.R_reads' HO298.out).2.2 | (with_reducible refine Kd.C_alloc ?_ _) | (with_reducible refine Kd.C_drewN ?_ _) | (with_reducible refine Kd.C_drew ?_)))
          (case side2 => exact (Kd.R_reads' HO298.out).2.1)
          rintro e w25 ⟨rfl, hb⟩
          refine ⟨_, rfl, ?_⟩
          have n0_ := am (Kd.R_below (xk HO298) hb)
          have n1_ := am (xw BK299 hb)
          have n2_ := am (xw BK307 hb)
          have n3_ := am (xw BK308 hb)
          have n4_ := am (below_step (xh HB) hb)
          clear HO298
          clear BK299
          clear BK307
          clear BK308
          clear HB
          have HO298 := n0_
          have BK299 := n1_
          have BK307 := n2_
          have BK308 := n3_
          have HB := n4_
          clear n0_ n1_ n2_ n3_ n4_
          (try clear hb)
          (try clear hb2)
          (try clear hk)
          (try clear hi)
          refine hK.out _ _ ⟨(blk_cell BK299.out 0).trans rfl, (blk_cell BK299.out 1).trans rfl, (blk_cell BK299.out 2).trans rfl, (blk_cell BK299.out 3).trans rfl⟩ (fun hHeld => ?_)
          clear hK K
          refine norm_ (a' := ?_) ?_ ?_
          rotate_left
          ·
           show Act.put _ (some 30) _ = _
           simp only [Act.put, List.setIfInBounds_toArray, List.set_cons_zero, List.set_cons_succ, i64_w, i32_w]
           rfl
          exact xn (hJ3_11_12 (gb307, gb308) _ ⟨hHeld, (xk HO298), (xb BK299), (xb BK307), (xb BK308), GW307.out, GE307.out, NB299_307.out, NB307_299.out, NB308_307.out, NB307_308.out, GW308.out, GE308.out, NB299_308.out, NB308_299.out, (xh HB)⟩)
        ·
         skip
         rintro gb308 w24 ⟨hS_, h0_, h1_, h2_, h3_, h4_, h5_, h6_, h7_⟩
         have n0_ : Aside0 (Kd.R k42 42 w24 w.heap.size (fun _ => True) (.slice Ao19 t296.length co19) t296) := ⟨h0_⟩
         have n1_ : Aside0 (w24.heap[gb299]? = some (.cells #[.int .i64 t293, .bool t294, .bool t295, .slice Ao19 t296.length co19] 25 (0, 0))) := ⟨h1_⟩
         have n2_ : Aside0 (w24.heap[gb308]? = some (.cells #[.int .i64 0, .int .i64 0] 34 (0, 0))) := ⟨h2_⟩
         have n3_ : Aside0 (w.heap.size ≤ gb308) := ⟨h3_⟩
         have n4_ : Aside0 (w.heap.size ≤ gb308) := ⟨h4_⟩
         have n5_ : Aside0 (gb299 ≠ gb308) := ⟨h5_⟩
         have n6_ : Aside0 (gb308 ≠ gb299) := ⟨h6_⟩
         have n7_ : Aside0 (Below w.heap.size w w24) := ⟨h7_⟩
         clear HO298
         clear BK299
         clear HB
         clear h0_ h1_ h2_ h3_ h4_ h5_ h6_ h7_
         have HO298 := n0_
         have BK299 := n1_
         have BK308 := n2_
         have GW308 := n3_
         have GE308 := n4_
         have NB299_308 := n5_
         have NB308_299 := n6_
         have HB := n7_
         clear n0_ n1_ n2_ n3_ n4_ n5_ n6_ n7_
         have hHeld : w24.cell? ⟨gb299, 0, none⟩ = some (.int .i64 t293) ∧ w24.cell? ⟨gb299, 1, none⟩ = some (.bool t294) ∧ w24.cell? ⟨gb299, 2, none⟩ = some (.bool t295) ∧ w24.cell? ⟨gb299, 3, none⟩ = some (.slice Ao19 t296.length co19) := hS_
         refine norm_ (a' := ?_) ?_ ?_
         rotate_left
         ·
          simp only [putAll, Act.put, List.setIfInBounds_toArray, List.set_cons_zero, List.set_cons_succ]
          rfl
         refine two_ (i := 10) (j := 11) (Ni := some 37) (Nj := some 12) #[true, true, true, true, true, true, true, true, true, true, true, false, true, false, false] #[true, true, true, true, true, true, true, true, true, true, false, true, true, false, false] rfl rfl rfl rfl (two_of HT_.out (by kernel_rfl)) (by decide) (by decide) (fun K hK => ?_) (fun K hK => ?_)
         ·
          skip
          refine goes_ Try.func16 (by kernel_rfl) rfl #[.agg #[.int .i64 t293, .bool t294, .bool t295, .slice Ao19 t296.length co19], .int .i64 (wrap64 ((Int.tmod (wrap64 (a3)) 4) - 1)), .int .i64 (wrap64 ((wrap64 (t302 - 200)) + (wrap64 (a2))))] (by rfl) rfl rfl xv ?_
          with_reducible refine (fan_At.calls k t293 t294 t295 _ _ t296 (wrap64 ((Int.tmod (wrap64 (a3)) 4) - 1)) (wrap64 ((wrap64 (t302 - 200)) + (wrap64 (a2)))) t305 t306 _ ?side1 ?side2 A10.out).mono ?_
          (case side1 => repeat (first | exact (Kd.R_reads' HO298.out).2.2 | (with_reducible refine Kd.C_alloc ?_ _) | (with_reducible refine Kd.C_drewN ?_ _) | (with_reducible refine Kd.C_drew ?_)))
          (case side2 => exact (Kd.R_reads' HO298.out).2.1)
          rintro e w25 ⟨rfl, hb⟩
          refine ⟨_, rfl, ?_⟩
          have n0_ := am (Kd.R_below (xk HO298) hb)
          have n1_ := am (xw BK299 hb)
          have n2_ := am (xw BK308 hb)
          have n3_ := am (below_step (xh HB) hb)
          clear HO298
          clear BK299
          clear BK308
          clear HB
          have HO298 := n0_
          have BK299 := n1_
          have BK308 := n2_
          have HB := n3_
          clear n0_ n1_ n2_ n3_
          (try clear hb)
          (try clear hb2)
          (try clear hk)
          (try clear hi)
          refine hK.out _ _ ⟨(blk_cell BK299.out 0).trans rfl, (blk_cell BK299.out 1).trans rfl, (blk_cell BK299.out 2).trans rfl, (blk_cell BK299.out 3).trans rfl⟩ (fun hHeld => ?_)
          clear hK K
          refine norm_ (a' := ?_) ?_ ?_
          rotate_left
          ·
           show Act.put _ (some 37) _ = _
           simp only [Act.put, List.setIfInBounds_toArray, List.set_cons_zero, List.set_cons_succ, i64_w, i32_w]
           rfl
          exact xn (hJ3_10_12 (gb308) _ ⟨hHeld, (xk HO298), (xb BK299), (xb BK308), GW308.out, GE308.out, NB299_308.out, NB308_299.out, (xh HB)⟩)
         ·
          skip
          refine box_step ?hg (N := 12) ?hd (cs := #[.int .i64 0, .int .i64 0]) (t := 34) ?hr ?_; (case hd => rfl); (case hg => rfl); (case hr => first | (go_simp; done) | (go_simp; rfl))
          intro gb307 hg w25 hbox hb
          have n0_ := am (Kd.R_below (xk HO298) hb)
          have n1_ := am (xw BK299 hb)
          have n2_ := am (xw BK308 hb)
          have n3_ := am (below_step (xh HB) hb)
          have n4_ := am (hbox)
          have n5_ := am (xs hg HB)
          have n6_ := am (xs hg HB)
          have n7_ := am (xnl hg BK299)
          have n8_ := am (xng hg BK299)
          have n9_ := am (xnl hg BK308)
          have n10_ := am (xng hg BK308)
          clear HO298
          clear BK299
          clear BK308
          clear HB
          have HO298 := n0_
          have BK299 := n1_
          have BK308 := n2_
          have HB := n3_
          have BK307 := n4_
          have GW307 := n5_
          have GE307 := n6_
          have NB299_307 := n7_
          have NB307_299 := n8_
          have NB308_307 := n9_
          have NB307_308 := n10_
          clear n0_ n1_ n2_ n3_ n4_ n5_ n6_ n7_ n8_ n9_ n10_
          clear hb hbox hg
          refine hK.out _ _ ⟨(blk_cell BK299.out 0).trans rfl, (blk_cell BK299.out 1).trans rfl, (blk_cell BK299.out 2).trans rfl, (blk_cell BK299.out 3).trans rfl⟩ (fun hHeld => ?_)
          clear hK K
          refine norm_ (a' := ?_) ?_ ?_
          rotate_left
          ·
           show Act.put _ (some 12) _ = _
           simp only [Act.put, List.setIfInBounds_toArray, List.set_cons_zero, List.set_cons_succ, i64_w, i32_w]
           rfl
          exact xn (hJ3_11_12 (gb307, gb308) _ ⟨hHeld, (xk HO298), (xb BK299), (xb BK307), (xb BK308), GW307.out, GE307.out, NB299_307.out, NB307_299.out, NB308_307.out, NB307_308.out, GW308.out, GE308.out, NB299_308.out, NB308_299.out, (xh HB)⟩)
       ·
        skip
        rintro gb307 w24 ⟨hS_, h0_, h1_, h2_, h3_, h4_, h5_, h6_, h7_⟩
        have n0_ : Aside0 (Kd.R k42 42 w24 w.heap.size (fun _ => True) (.slice Ao19 t296.length co19) t296) := ⟨h0_⟩
        have n1_ : Aside0 (w24.heap[gb299]? = some (.cells #[.int .i64 t293, .bool t294, .bool t295, .slice Ao19 t296.length co19] 25 (0, 0))) := ⟨h1_⟩
        have n2_ : Aside0 (w24.heap[gb307]? = some (.cells #[.int .i64 0, .int .i64 0] 34 (0, 0))) := ⟨h2_⟩
        have n3_ : Aside0 (w.heap.size ≤ gb307) := ⟨h3_⟩
        have n4_ : Aside0 (w.heap.size ≤ gb307) := ⟨h4_⟩
        have n5_ : Aside0 (gb299 ≠ gb307) := ⟨h5_⟩
        have n6_ : Aside0 (gb307 ≠ gb299) := ⟨h6_⟩
        have n7_ : Aside0 (Below w.heap.size w w24) := ⟨h7_⟩
        clear HO298
        clear BK299
        clear HB
        clear h0_ h1_ h2_ h3_ h4_ h5_ h6_ h7_
        have HO298 := n0_
        have BK299 := n1_
        have BK307 := n2_
        have GW307 := n3_
        have GE307 := n4_
        have NB299_307 := n5_
        have NB307_299 := n6_
        have HB := n7_
        clear n0_ n1_ n2_ n3_ n4_ n5_ n6_ n7_
        have hHeld : w24.cell? ⟨gb299, 0, none⟩ = some (.int .i64 t293) ∧ w24.cell? ⟨gb299, 1, none⟩ = some (.bool t294) ∧ w24.cell? ⟨gb299, 2, none⟩ = some (.bool t295) ∧ w24.cell? ⟨gb299, 3, none⟩ = some (.slice Ao19 t296.length co19) := hS_
        refine norm_ (a' := ?_) ?_ ?_
        rotate_left
        ·
         simp only [putAll, Act.put, List.setIfInBounds_toArray, List.set_cons_zero, List.set_cons_succ]
         rfl
        refine two_ (i := 10) (j := 12) (Ni := some 37) (Nj := some 13) #[true, true, true, true, true, true, true, true, true, true, true, true, false, false, false] #[true, true, true, true, true, true, true, true, true, true, false, true, true, false, false] rfl rfl rfl rfl (two_of HT_.out (by kernel_rfl)) (by decide) (by decide) (fun K hK => ?_) (fun K hK => ?_)
        ·
         skip
         refine goes_ Try.func16 (by kernel_rfl) rfl #[.agg #[.int .i64 t293, .bool t294, .bool t295, .slice Ao19 t296.length co19], .int .i64 (wrap64 ((Int.tmod (wrap64 (a3)) 4) - 1)), .int .i64 (wrap64 ((wrap64 (t302 - 200)) + (wrap64 (a2))))] (by rfl) rfl rfl xv ?_
         with_reducible refine (fan_At.calls k t293 t294 t295 _ _ t296 (wrap64 ((Int.tmod (wrap64 (a3)) 4) - 1)) (wrap64 ((wrap64 (t302 - 200)) + (wrap64 (a2)))) t305 t306 _ ?side1 ?side2 A10.out).mono ?_
         (case side1 => repeat (first | exact (Kd.R_reads' HO298.out).2.2 | (with_reducible refine Kd.C_alloc ?_ _) | (with_reducible refine Kd.C_drewN ?_ _) | (with_reducible refine Kd.C_drew ?_)))
         (case side2 => exact (Kd.R_reads' HO298.out).2.1)
         rintro e w25 ⟨rfl, hb⟩
         refine ⟨_, rfl, ?_⟩
         have n0_ := am (Kd.R_below (xk HO298) hb)
         have n1_ := am (xw BK299 hb)
         have n2_ := am (xw BK307 hb)
         have n3_ := am (below_step (xh HB) hb)
         clear HO298
         clear BK299
         clear BK307
         clear HB
         have HO298 := n0_
         have BK299 := n1_
         have BK307 := n2_
         have HB := n3_
         clear n0_ n1_ n2_ n3_
         (try clear hb)
         (try clear hb2)
         (try clear hk)
         (try clear hi)
         refine hK.out _ _ ⟨(blk_cell BK299.out 0).trans rfl, (blk_cell BK299.out 1).trans rfl, (blk_cell BK299.out 2).trans rfl, (blk_cell BK299.out 3).trans rfl⟩ (fun hHeld => ?_)
         clear hK K
         refine norm_ (a' := ?_) ?_ ?_
         rotate_left
         ·
          show Act.put _ (some 37) _ = _
          simp only [Act.put, List.setIfInBounds_toArray, List.set_cons_zero, List.set_cons_succ, i64_w, i32_w]
          rfl
         exact xn (hJ3_10_11 (gb307) _ ⟨hHeld, (xk HO298), (xb BK299), (xb BK307), GW307.out, GE307.out, NB299_307.out, NB307_299.out, (xh HB)⟩)
        ·
         skip
         refine box_step ?hg (N := 13) ?hd (cs := #[.int .i64 0, .int .i64 0]) (t := 34) ?hr ?_; (case hd => rfl); (case hg => rfl); (case hr => first | (go_simp; done) | (go_simp; rfl))
         intro gb308 hg w25 hbox hb
         have n0_ := am (Kd.R_below (xk HO298) hb)
         have n1_ := am (xw BK299 hb)
         have n2_ := am (xw BK307 hb)
         have n3_ := am (below_step (xh HB) hb)
         have n4_ := am (hbox)
         have n5_ := am (xs hg HB)
         have n6_ := am (xs hg HB)
         have n7_ := am (xnl hg BK299)
         have n8_ := am (xng hg BK299)
         have n9_ := am (xnl hg BK307)
         have n10_ := am (xng hg BK307)
         clear HO298
         clear BK299
         clear BK307
         clear HB
         have HO298 := n0_
         have BK299 := n1_
         have BK307 := n2_
         have HB := n3_
         have BK308 := n4_
         have GW308 := n5_
         have GE308 := n6_
         have NB299_308 := n7_
         have NB308_299 := n8_
         have NB307_308 := n9_
         have NB308_307 := n10_
         clear n0_ n1_ n2_ n3_ n4_ n5_ n6_ n7_ n8_ n9_ n10_
         clear hb hbox hg
         refine hK.out _ _ ⟨(blk_cell BK299.out 0).trans rfl, (blk_cell BK299.out 1).trans rfl, (blk_cell BK299.out 2).trans rfl, (blk_cell BK299.out 3).trans rfl⟩ (fun hHeld => ?_)
         clear hK K
         refine norm_ (a' := ?_) ?_ ?_
         rotate_left
         ·
          show Act.put _ (some 13) _ = _
          simp only [Act.put, List.setIfInBounds_toArray, List.set_cons_zero, List.set_cons_succ, i64_w, i32_w]
          rfl
         exact xn (hJ3_11_12 (gb307, gb308) _ ⟨hHeld, (xk HO298), (xb BK299), (xb BK307), (xb BK308), GW307.out, GE307.out, NB299_307.out, NB307_299.out, NB308_307.out, NB307_308.out, GW308.out, GE308.out, NB299_308.out, NB308_299.out, (xh HB)⟩)
      ·
       skip
       rintro _ w24 ⟨hS_, h0_, h1_, h2_⟩
       have n0_ : Aside0 (Kd.R k42 42 w24 w.heap.size (fun _ => True) (.slice Ao19 t296.length co19) t296) := ⟨h0_⟩
       have n1_ : Aside0 (w24.heap[gb299]? = some (.cells #[.int .i64 t293, .bool t294, .bool t295, .slice Ao19 t296.length co19] 25 (0, 0))) := ⟨h1_⟩
       have n2_ : Aside0 (Below w.heap.size w w24) := ⟨h2_⟩
       clear HO298
       clear BK299
       clear HB
       clear h0_ h1_ h2_
       have HO298 := n0_
       have BK299 := n1_
       have HB := n2_
       clear n0_ n1_ n2_
       have hHeld : w24.cell? ⟨gb299, 0, none⟩ = some (.int .i64 t293) ∧ w24.cell? ⟨gb299, 1, none⟩ = some (.bool t294) ∧ w24.cell? ⟨gb299, 2, none⟩ = some (.bool t295) ∧ w24.cell? ⟨gb299, 3, none⟩ = some (.slice Ao19 t296.length co19) := hS_
       refine norm_ (a' := ?_) ?_ ?_
       rotate_left
       ·
        simp only [putAll, Act.put, List.setIfInBounds_toArray, List.set_cons_zero, List.set_cons_succ]
        rfl
       refine two_ (i := 11) (j := 12) (Ni := some 12) (Nj := some 13) #[true, true, true, true, true, true, true, true, true, true, true, true, false, false, false] #[true, true, true, true, true, true, true, true, true, true, true, false, true, false, false] rfl rfl rfl rfl (two_of HT_.out (by kernel_rfl)) (by decide) (by decide) (fun K hK => ?_) (fun K hK => ?_)
       ·
        skip
        refine box_step ?hg (N := 12) ?hd (cs := #[.int .i64 0, .int .i64 0]) (t := 34) ?hr ?_; (case hd => rfl); (case hg => rfl); (case hr => first | (go_simp; done) | (go_simp; rfl))
        intro gb307 hg w25 hbox hb
        have n0_ := am (Kd.R_below (xk HO298) hb)
        have n1_ := am (xw BK299 hb)
        have n2_ := am (below_step (xh HB) hb)
        have n3_ := am (hbox)
        have n4_ := am (xs hg HB)
        have n5_ := am (xs hg HB)
        have n6_ := am (xnl hg BK299)
        have n7_ := am (xng hg BK299)
        clear HO298
        clear BK299
        clear HB
        have HO298 := n0_
        have BK299 := n1_
        have HB := n2_
        have BK307 := n3_
        have GW307 := n4_
        have GE307 := n5_
        have NB299_307 := n6_
        have NB307_299 := n7_
        clear n0_ n1_ n2_ n3_ n4_ n5_ n6_ n7_
        clear hb hbox hg
        refine hK.out _ _ ⟨(blk_cell BK299.out 0).trans rfl, (blk_cell BK299.out 1).trans rfl, (blk_cell BK299.out 2).trans rfl, (blk_cell BK299.out 3).trans rfl⟩ (fun hHeld => ?_)
        clear hK K
        refine norm_ (a' := ?_) ?_ ?_
        rotate_left
        ·
         show Act.put _ (some 12) _ = _
         simp only [Act.put, List.setIfInBounds_toArray, List.set_cons_zero, List.set_cons_succ, i64_w, i32_w]
         rfl
        exact xn (hJ3_10_11 (gb307) _ ⟨hHeld, (xk HO298), (xb BK299), (xb BK307), GW307.out, GE307.out, NB299_307.out, NB307_299.out, (xh HB)⟩)
       ·
        skip
        refine box_step ?hg (N := 13) ?hd (cs := #[.int .i64 0, .int .i64 0]) (t := 34) ?hr ?_; (case hd => rfl); (case hg => rfl); (case hr => first | (go_simp; done) | (go_simp; rfl))
        intro gb308 hg w25 hbox hb
        have n0_ := am (Kd.R_below (xk HO298) hb)
        have n1_ := am (xw BK299 hb)
        have n2_ := am (below_step (xh HB) hb)
        have n3_ := am (hbox)
        have n4_ := am (xs hg HB)
        have n5_ := am (xs hg HB)
        have n6_ := am (xnl hg BK299)
        have n7_ := am (xng hg BK299)
        clear HO298
        clear BK299
        clear HB
        have HO298 := n0_
        have BK299 := n1_
        have HB := n2_
        have BK308 := n3_
        have GW308 := n4_
        have GE308 := n5_
        have NB299_308 := n6_
        have NB308_299 := n7_
        clear n0_ n1_ n2_ n3_ n4_ n5_ n6_ n7_
        clear hb hbox hg
        refine hK.out _ _ ⟨(blk_cell BK299.out 0).trans rfl, (blk_cell BK299.out 1).trans rfl, (blk_cell BK299.out 2).trans rfl, (blk_cell BK299.out 3).trans rfl⟩ (fun hHeld => ?_)
        clear hK K
        refine norm_ (a' := ?_) ?_ ?_
        rotate_left
        ·
         show Act.put _ (some 13) _ = _
         simp only [Act.put, List.setIfInBounds_toArray, List.set_cons_zero, List.set_cons_succ, i64_w, i32_w]
         rfl
        exact xn (hJ3_10_12 (gb308) _ ⟨hHeld, (xk HO298), (xb BK299), (xb BK308), GW308.out, GE308.out, NB299_308.out, NB308_299.out, (xh HB)⟩)
     ·
      skip
      rintro ⟨gb307, gb308⟩ w25 ⟨hS_, h0_, h1_, h2_, h3_, h4_, h5_, h6_, h7_, h8_, h9_, h10_, h11_, h12_, h13_, h14_⟩
      have n0_ : Aside0 (Kd.R k42 42 w25 w.heap.size (fun _ => True) (.slice Ao19 t296.length co19) t296) := ⟨h0_⟩
      have n1_ : Aside0 (w25.heap[gb299]? = some (.cells #[.int .i64 t293, .bool t294, .bool t295, .slice Ao19 t296.length co19] 25 (0, 0))) := ⟨h1_⟩
      have n2_ : Aside0 (w25.heap[gb307]? = some (.cells #[.int .i64 0, .int .i64 0] 34 (0, 0))) := ⟨h2_⟩
      have n3_ : Aside0 (w25.heap[gb308]? = some (.cells #[.int .i64 0, .int .i64 0] 34 (0, 0))) := ⟨h3_⟩
      have n4_ : Aside0 (w.heap.size ≤ gb307) := ⟨h4_⟩
      have n5_ : Aside0 (w.heap.size ≤ gb307) := ⟨h5_⟩
      have n6_ : Aside0 (gb299 ≠ gb307) := ⟨h6_⟩
      have n7_ : Aside0 (gb307 ≠ gb299) := ⟨h7_⟩
      have n8_ : Aside0 (gb308 ≠ gb307) := ⟨h8_⟩
      have n9_ : Aside0 (gb307 ≠ gb308) := ⟨h9_⟩
      have n10_ : Aside0 (w.heap.size ≤ gb308) := ⟨h10_⟩
      have n11_ : Aside0 (w.heap.size ≤ gb308) := ⟨h11_⟩
      have n12_ : Aside0 (gb299 ≠ gb308) := ⟨h12_⟩
      have n13_ : Aside0 (gb308 ≠ gb299) := ⟨h13_⟩
      have n14_ : Aside0 (Below w.heap.size w w25) := ⟨h14_⟩
      clear HO298
      clear BK299
      clear HB
      clear h0_ h1_ h2_ h3_ h4_ h5_ h6_ h7_ h8_ h9_ h10_ h11_ h12_ h13_ h14_
      have HO298 := n0_
      have BK299 := n1_
      have BK307 := n2_
      have BK308 := n3_
      have GW307 := n4_
      have GE307 := n5_
      have NB299_307 := n6_
      have NB307_299 := n7_
      have NB308_307 := n8_
      have NB307_308 := n9_
      have GW308 := n10_
      have GE308 := n11_
      have NB299_308 := n12_
      have NB308_299 := n13_
      have HB := n14_
      clear n0_ n1_ n2_ n3_ n4_ n5_ n6_ n7_ n8_ n9_ n10_ n11_ n12_ n13_ n14_
      have hHeld : w25.cell? ⟨gb299, 0, none⟩ = some (.int .i64 t293) ∧ w25.cell? ⟨gb299, 1, none⟩ = some (.bool t294) ∧ w25.cell? ⟨gb299, 2, none⟩ = some (.bool t295) ∧ w25.cell? ⟨gb299, 3, none⟩ = some (.slice Ao19 t296.length co19) := hS_
      refine norm_ (a' := ?_) ?_ ?_
      rotate_left
      ·
       simp only [putAll, Act.put, List.setIfInBounds_toArray, List.set_cons_zero, List.set_cons_succ]
       rfl
      refine one_ (i := 10) (N := some 37) #[true, true, true, true, true, true, true, true, true, true, true, true, true, false, false] rfl rfl (one_of HT_.out (by kernel_rfl)) (by decide) (fun K hK => ?_)
      refine goes_ Try.func16 (by kernel_rfl) rfl #[.agg #[.int .i64 t293, .bool t294, .bool t295, .slice Ao19 t296.length co19], .int .i64 (wrap64 ((Int.tmod (wrap64 (a3)) 4) - 1)), .int .i64 (wrap64 ((wrap64 (t302 - 200)) + (wrap64 (a2))))] (by rfl) rfl rfl xv ?_
      with_reducible refine (fan_At.calls k t293 t294 t295 _ _ t296 (wrap64 ((Int.tmod (wrap64 (a3)) 4) - 1)) (wrap64 ((wrap64 (t302 - 200)) + (wrap64 (a2)))) t305 t306 _ ?side1 ?side2 A10.out).mono ?_
      (case side1 => repeat (first | exact (Kd.R_reads' HO298.out).2.2 | (with_reducible refine Kd.C_alloc ?_ _) | (with_reducible refine Kd.C_drewN ?_ _) | (with_reducible refine Kd.C_drew ?_)))
      (case side2 => exact (Kd.R_reads' HO298.out).2.1)
      rintro e w26 ⟨rfl, hb⟩
      refine ⟨_, rfl, ?_⟩
      have n0_ := am (Kd.R_below (xk HO298) hb)
      have n1_ := am (xw BK299 hb)
      have n2_ := am (xw BK307 hb)
      have n3_ := am (xw BK308 hb)
      have n4_ := am (below_step (xh HB) hb)
      clear HO298
      clear BK299
      clear BK307
      clear BK308
      clear HB
      have HO298 := n0_
      have BK299 := n1_
      have BK307 := n2_
      have BK308 := n3_
      have HB := n4_
      clear n0_ n1_ n2_ n3_ n4_
      (try clear hb)
      (try clear hb2)
      (try clear hk)
      (try clear hi)
      refine hK.out _ _ ⟨(blk_cell BK299.out 0).trans rfl, (blk_cell BK299.out 1).trans rfl, (blk_cell BK299.out 2).trans rfl, (blk_cell BK299.out 3).trans rfl⟩ (fun hHeld => ?_)
      clear hK K
      refine norm_ (a' := ?_) ?_ ?_
      rotate_left
      ·
       show Act.put _ (some 37) _ = _
       simp only [Act.put, List.setIfInBounds_toArray, List.set_cons_zero, List.set_cons_succ, i64_w, i32_w]
       rfl
      exact xn (hJ3_10_11_12 (gb307, gb308) _ ⟨hHeld, (xk HO298), (xb BK299), (xb BK307), (xb BK308), GW307.out, GE307.out, NB299_307.out, NB307_299.out, NB308_307.out, NB307_308.out, GW308.out, GE308.out, NB299_308.out, NB308_299.out, (xh HB)⟩)
    ·
     skip
     rintro gb308 w25 ⟨hS_, h0_, h1_, h2_, h3_, h4_, h5_, h6_, h7_⟩
     have n0_ : Aside0 (Kd.R k42 42 w25 w.heap.size (fun _ => True) (.slice Ao19 t296.length co19) t296) := ⟨h0_⟩
     have n1_ : Aside0 (w25.heap[gb299]? = some (.cells #[.int .i64 t293, .bool t294, .bool t295, .slice Ao19 t296.length co19] 25 (0, 0))) := ⟨h1_⟩
     have n2_ : Aside0 (w25.heap[gb308]? = some (.cells #[.int .i64 0, .int .i64 0] 34 (0, 0))) := ⟨h2_⟩
     have n3_ : Aside0 (w.heap.size ≤ gb308) := ⟨h3_⟩
     have n4_ : Aside0 (w.heap.size ≤ gb308) := ⟨h4_⟩
     have n5_ : Aside0 (gb299 ≠ gb308) := ⟨h5_⟩
     have n6_ : Aside0 (gb308 ≠ gb299) := ⟨h6_⟩
     have n7_ : Aside0 (Below w.heap.size w w25) := ⟨h7_⟩
     clear HO298
     clear BK299
     clear HB
     clear h0_ h1_ h2_ h3_ h4_ h5_ h6_ h7_
     have HO298 := n0_
     have BK299 := n1_
     have BK308 := n2_
     have GW308 := n3_
     have GE308 := n4_
     have NB299_308 := n5_
     have NB308_299 := n6_
     have HB := n7_
     clear n0_ n1_ n2_ n3_ n4_ n5_ n6_ n7_
     have hHeld : w25.cell? ⟨gb299, 0, none⟩ = some (.int .i64 t293) ∧ w25.cell? ⟨gb299, 1, none⟩ = some (.bool t294) ∧ w25.cell? ⟨gb299, 2, none⟩ = some (.bool t295) ∧ w25.cell? ⟨gb299, 3, none⟩ = some (.slice Ao19 t296.length co19) := hS_
     refine norm_ (a' := ?_) ?_ ?_
     rotate_left
     ·
      simp only [putAll, Act.put, List.setIfInBounds_toArray, List.set_cons_zero, List.set_cons_succ]
      rfl
     refine one_ (i := 11) (N := some 12) #[true, true, true, true, true, true, true, true, true, true, true, true, true, false, false] rfl rfl (one_of HT_.out (by kernel_rfl)) (by decide) (fun K hK => ?_)
     refine box_step ?hg (N := 12) ?hd (cs := #[.int .i64 0, .int .i64 0]) (t := 34) ?hr ?_; (case hd => rfl); (case hg => rfl); (case hr => first | (go_simp; done) | (go_simp; rfl))
     intro gb307 hg w26 hbox hb
     have n0_ := am (Kd.R_below (xk HO298) hb)
     have n1_ := am (xw BK299 hb)
     have n2_ := am (xw BK308 hb)
     have n3_ := am (below_step (xh HB) hb)
     have n4_ := am (hbox)
     have n5_ := am (xs hg HB)
     have n6_ := am (xs hg HB)
     have n7_ := am (xnl hg BK299)
     have n8_ := am (xng hg BK299)
     have n9_ := am (xnl hg BK308)
     have n10_ := am (xng hg BK308)
     clear HO298
     clear BK299
     clear BK308
     clear HB
     have HO298 := n0_
     have BK299 := n1_
     have BK308 := n2_
     have HB := n3_
     have BK307 := n4_
     have GW307 := n5_
     have GE307 := n6_
     have NB299_307 := n7_
     have NB307_299 := n8_
     have NB308_307 := n9_
     have NB307_308 := n10_
     clear n0_ n1_ n2_ n3_ n4_ n5_ n6_ n7_ n8_ n9_ n10_
     clear hb hbox hg
     refine hK.out _ _ ⟨(blk_cell BK299.out 0).trans rfl, (blk_cell BK299.out 1).trans rfl, (blk_cell BK299.out 2).trans rfl, (blk_cell BK299.out 3).trans rfl⟩ (fun hHeld => ?_)
     clear hK K
     refine norm_ (a' := ?_) ?_ ?_
     rotate_left
     ·
      show Act.put _ (some 12) _ = _
      simp only [Act.put, List.setIfInBounds_toArray, List.set_cons_zero, List.set_cons_succ, i64_w, i32_w]
      rfl
     exact xn (hJ3_10_11_12 (gb307, gb308) _ ⟨hHeld, (xk HO298), (xb BK299), (xb BK307), (xb BK308), GW307.out, GE307.out, NB299_307.out, NB307_299.out, NB308_307.out, NB307_308.out, GW308.out, GE308.out, NB299_308.out, NB308_299.out, (xh HB)⟩)
   ·
    skip
    rintro gb307 w25 ⟨hS_, h0_, h1_, h2_, h3_, h4_, h5_, h6_, h7_⟩
    have n0_ : Aside0 (Kd.R k42 42 w25 w.heap.size (fun _ => True) (.slice Ao19 t296.length co19) t296) := ⟨h0_⟩
    have n1_ : Aside0 (w25.heap[gb299]? = some (.cells #[.int .i64 t293, .bool t294, .bool t295, .slice Ao19 t296.length co19] 25 (0, 0))) := ⟨h1_⟩
    have n2_ : Aside0 (w25.heap[gb307]? = some (.cells #[.int .i64 0, .int .i64 0] 34 (0, 0))) := ⟨h2_⟩
    have n3_ : Aside0 (w.heap.size ≤ gb307) := ⟨h3_⟩
    have n4_ : Aside0 (w.heap.size ≤ gb307) := ⟨h4_⟩
    have n5_ : Aside0 (gb299 ≠ gb307) := ⟨h5_⟩
    have n6_ : Aside0 (gb307 ≠ gb299) := ⟨h6_⟩
    have n7_ : Aside0 (Below w.heap.size w w25) := ⟨h7_⟩
    clear HO298
    clear BK299
    clear HB
    clear h0_ h1_ h2_ h3_ h4_ h5_ h6_ h7_
    have HO298 := n0_
    have BK299 := n1_
    have BK307 := n2_
    have GW307 := n3_
    have GE307 := n4_
    have NB299_307 := n5_
    have NB307_299 := n6_
    have HB := n7_
    clear n0_ n1_ n2_ n3_ n4_ n5_ n6_ n7_
    have hHeld : w25.cell? ⟨gb299, 0, none⟩ = some (.int .i64 t293) ∧ w25.cell? ⟨gb299, 1, none⟩ = some (.bool t294) ∧ w25.cell? ⟨gb299, 2, none⟩ = some (.bool t295) ∧ w25.cell? ⟨gb299, 3, none⟩ = some (.slice Ao19 t296.length co19) := hS_
    refine norm_ (a' := ?_) ?_ ?_
    rotate_left
    ·
     simp only [putAll, Act.put, List.setIfInBounds_toArray, List.set_cons_zero, List.set_cons_succ]
     rfl
    refine one_ (i := 12) (N := some 13) #[true, true, true, true, true, true, true, true, true, true, true, true, true, false, false] rfl rfl (one_of HT_.out (by kernel_rfl)) (by decide) (fun K hK => ?_)
    refine box_step ?hg (N := 13) ?hd (cs := #[.int .i64 0, .int .i64 0]) (t := 34) ?hr ?_; (case hd => rfl); (case hg => rfl); (case hr => first | (go_simp; done) | (go_simp; rfl))
    intro gb308 hg w26 hbox hb
    have n0_ := am (Kd.R_below (xk HO298) hb)
    have n1_ := am (xw BK299 hb)
    have n2_ := am (xw BK307 hb)
    have n3_ := am (below_step (xh HB) hb)
    have n4_ := am (hbox)
    have n5_ := am (xs hg HB)
    have n6_ := am (xs hg HB)
    have n7_ := am (xnl hg BK299)
    have n8_ := am (xng hg BK299)
    have n9_ := am (xnl hg BK307)
    have n10_ := am (xng hg BK307)
    clear HO298
    clear BK299
    clear BK307
    clear HB
    have HO298 := n0_
    have BK299 := n1_
    have BK307 := n2_
    have HB := n3_
    have BK308 := n4_
    have GW308 := n5_
    have GE308 := n6_
    have NB299_308 := n7_
    have NB308_299 := n8_
    have NB307_308 := n9_
    have NB308_307 := n10_
    clear n0_ n1_ n2_ n3_ n4_ n5_ n6_ n7_ n8_ n9_ n10_
    clear hb hbox hg
    refine hK.out _ _ ⟨(blk_cell BK299.out 0).trans rfl, (blk_cell BK299.out 1).trans rfl, (blk_cell BK299.out 2).trans rfl, (blk_cell BK299.out 3).trans rfl⟩ (fun hHeld => ?_)
    clear hK K
    refine norm_ (a' := ?_) ?_ ?_
    rotate_left
    ·
     show Act.put _ (some 13) _ = _
     simp only [Act.put, List.setIfInBounds_toArray, List.set_cons_zero, List.set_cons_succ, i64_w, i32_w]
     rfl
    exact xn (hJ3_10_11_12 (gb307, gb308) _ ⟨hHeld, (xk HO298), (xb BK299), (xb BK307), (xb BK308), GW307.out, GE307.out, NB299_307.out, NB307_299.out, NB308_307.out, NB307_308.out, GW308.out, GE308.out, NB299_308.out, NB308_299.out, (xh HB)⟩)
  rintro ⟨gb307, gb308⟩ w26 ⟨hS_, h0_, h1_, h2_, h3_, h4_, h5_, h6_, h7_, h8_, h9_, h10_, h11_, h12_, h13_, h14_⟩
  have n0_ : Aside0 (Kd.R k42 42 w26 w.heap.size (fun _ => True) (.slice Ao19 t296.length co19) t296) := ⟨h0_⟩
  have n1_ : Aside0 (w26.heap[gb299]? = some (.cells #[.int .i64 t293, .bool t294, .bool t295, .slice Ao19 t296.length co19] 25 (0, 0))) := ⟨h1_⟩
  have n2_ : Aside0 (w26.heap[gb307]? = some (.cells #[.int .i64 0, .int .i64 0] 34 (0, 0))) := ⟨h2_⟩
  have n3_ : Aside0 (w26.heap[gb308]? = some (.cells #[.int .i64 0, .int .i64 0] 34 (0, 0))) := ⟨h3_⟩
  have n4_ : Aside0 (w.heap.size ≤ gb307) := ⟨h4_⟩
  have n5_ : Aside0 (w.heap.size ≤ gb307) := ⟨h5_⟩
  have n6_ : Aside0 (gb299 ≠ gb307) := ⟨h6_⟩
  have n7_ : Aside0 (gb307 ≠ gb299) := ⟨h7_⟩
  have n8_ : Aside0 (gb308 ≠ gb307) := ⟨h8_⟩
  have n9_ : Aside0 (gb307 ≠ gb308) := ⟨h9_⟩
  have n10_ : Aside0 (w.heap.size ≤ gb308) := ⟨h10_⟩
  have n11_ : Aside0 (w.heap.size ≤ gb308) := ⟨h11_⟩
  have n12_ : Aside0 (gb299 ≠ gb308) := ⟨h12_⟩
  have n13_ : Aside0 (gb308 ≠ gb299) := ⟨h13_⟩
  have n14_ : Aside0 (Below w.heap.size w w26) := ⟨h14_⟩
  clear HO298
  clear BK299
  clear HB
  clear h0_ h1_ h2_ h3_ h4_ h5_ h6_ h7_ h8_ h9_ h10_ h11_ h12_ h13_ h14_
  have HO298 := n0_
  have BK299 := n1_
  have BK307 := n2_
  have BK308 := n3_
  have GW307 := n4_
  have GE307 := n5_
  have NB299_307 := n6_
  have NB307_299 := n7_
  have NB308_307 := n8_
  have NB307_308 := n9_
  have GW308 := n10_
  have GE308 := n11_
  have NB299_308 := n12_
  have NB308_299 := n13_
  have HB := n14_
  clear n0_ n1_ n2_ n3_ n4_ n5_ n6_ n7_ n8_ n9_ n10_ n11_ n12_ n13_ n14_
  have hHeld : w26.cell? ⟨gb299, 0, none⟩ = some (.int .i64 t293) ∧ w26.cell? ⟨gb299, 1, none⟩ = some (.bool t294) ∧ w26.cell? ⟨gb299, 2, none⟩ = some (.bool t295) ∧ w26.cell? ⟨gb299, 3, none⟩ = some (.slice Ao19 t296.length co19) := hS_
  refine norm_ (a' := ?_) ?_ ?_
  rotate_left
  ·
   simp only [putAll, Act.put, List.setIfInBounds_toArray, List.set_cons_zero, List.set_cons_succ]
   rfl
  refine one_ (i := 13) (N := none) #[true, true, true, true, true, true, true, true, true, true, true, true, true, true, false] rfl rfl (one_of HT_.out (by kernel_rfl)) (by decide) (fun K hK => ?_)
  have hs27 : w26.cell? ⟨gb307, 0, none⟩ = some (.int .i64 0) := (blk_cell BK307.out 0).trans rfl
  have hfs27 := blk_frozen BK307.out 0
  have hns27_0 := NB299_307.out
  have hns27_2 := NB308_307.out
  have hms27_0 := NB307_299.out
  have hms27_2 := NB307_308.out
  have hs28 : w26.cell? ⟨gb307, 1, none⟩ = some (.int .i64 0) := (blk_cell BK307.out 1).trans rfl
  have hfs28 := blk_frozen BK307.out 1
  have hns28_0 := NB299_307.out
  have hns28_2 := NB308_307.out
  have hms28_0 := NB307_299.out
  have hms28_2 := NB307_308.out
  refine skip_ (w1 := ?_) (by rfl) rfl ?_ ?_
  rotate_left
  ·
   go_simp
   rfl
  refine hK.out _ _ ⟨((cell_far (p := ⟨gb307, _, none⟩) NB299_307.out _).trans (((cell_far (p := ⟨gb307, _, none⟩) NB299_307.out _).trans (hHeld.1)))), ((cell_far (p := ⟨gb307, _, none⟩) NB299_307.out _).trans (((cell_far (p := ⟨gb307, _, none⟩) NB299_307.out _).trans (hHeld.2.1)))), ((cell_far (p := ⟨gb307, _, none⟩) NB299_307.out _).trans (((cell_far (p := ⟨gb307, _, none⟩) NB299_307.out _).trans (hHeld.2.2.1)))), ((cell_far (p := ⟨gb307, _, none⟩) NB299_307.out _).trans (((cell_far (p := ⟨gb307, _, none⟩) NB299_307.out _).trans (hHeld.2.2.2))))⟩ (fun hHeld => ?_)
  clear hK K
  refine one_ (i := 14) (N := none) #[true, true, true, true, true, true, true, true, true, true, true, true, true, true, true] rfl rfl (one_of HT_.out (by kernel_rfl)) (by decide) (fun K hK => ?_)
  have hs29 : w26.cell? ⟨gb308, 0, none⟩ = some (.int .i64 0) := (blk_cell BK308.out 0).trans rfl
  have hfs29 := blk_frozen BK308.out 0
  have hns29_0 := NB299_308.out
  have hns29_1 := NB307_308.out
  have hms29_0 := NB308_299.out
  have hms29_1 := NB308_307.out
  have hs30 : w26.cell? ⟨gb308, 1, none⟩ = some (.int .i64 0) := (blk_cell BK308.out 1).trans rfl
  have hfs30 := blk_frozen BK308.out 1
  have hns30_0 := NB299_308.out
  have hns30_1 := NB307_308.out
  have hms30_0 := NB308_299.out
  have hms30_1 := NB308_307.out
  refine skip_ (w1 := ?_) (by rfl) rfl ?_ ?_
  rotate_left
  ·
   go_simp
   rfl
  refine hK.out _ _ ⟨((cell_far (p := ⟨gb308, _, none⟩) NB299_308.out _).trans (((cell_far (p := ⟨gb308, _, none⟩) NB299_308.out _).trans (hHeld.1)))), ((cell_far (p := ⟨gb308, _, none⟩) NB299_308.out _).trans (((cell_far (p := ⟨gb308, _, none⟩) NB299_308.out _).trans (hHeld.2.1)))), ((cell_far (p := ⟨gb308, _, none⟩) NB299_308.out _).trans (((cell_far (p := ⟨gb308, _, none⟩) NB299_308.out _).trans (hHeld.2.2.1)))), ((cell_far (p := ⟨gb308, _, none⟩) NB299_308.out _).trans (((cell_far (p := ⟨gb308, _, none⟩) NB299_308.out _).trans (hHeld.2.2.2))))⟩ (fun hHeld => ?_)
  clear hK K
  refine done_ (done_of HT_.out (by kernel_rfl)) ?_
  have hnb31 := NB307_299.out
  have hnc31 := NB299_307.out
  have hnb32 := NB307_308.out
  have hnc32 := NB308_307.out
  have hcz33_0 : w26.cell? ⟨gb307, 0, none⟩ = some (.int .i64 0) := (blk_cell BK307.out 0).trans rfl
  have hcz33_1 : w26.cell? ⟨gb307, 1, none⟩ = some (.int .i64 0) := (blk_cell BK307.out 1).trans rfl
  have hfz33_0 := blk_frozen BK307.out 0
  have hfz33_1 := blk_frozen BK307.out 1
  have hnb34 := NB308_299.out
  have hnc34 := NB299_308.out
  have hcz35_0 : w26.cell? ⟨gb308, 0, none⟩ = some (.int .i64 0) := (blk_cell BK308.out 0).trans rfl
  have hcz35_1 : w26.cell? ⟨gb308, 1, none⟩ = some (.int .i64 0) := (blk_cell BK308.out 1).trans rfl
  have hfz35_0 := blk_frozen BK308.out 0
  have hfz35_1 := blk_frozen BK308.out 1
  try go_wp2_with (first | (go_at_call 12; (with_reducible refine (minecontrollaw07_awake.calls k  t309 _ A15.out).mono ?_); rintro e w36 ⟨rfl, hb⟩; have n0_ := am (Kd.R_below (by (with_reducible repeat (first | apply Kd.R_alloc | apply Kd.R_drewN | apply Kd.R_drew)); exact (Kd.R_mono (Kd.R_mono (Kd.R_far (p := ⟨gb308, 1, none⟩) (Kd.R_far (p := ⟨gb308, 0, none⟩) (Kd.R_far (p := ⟨gb307, 1, none⟩) (Kd.R_far (p := ⟨gb307, 0, none⟩) (Kd.R_types (Kd.R_types HO298.out BK307.out (by decide)) BK308.out (by decide)) (fun _ hk => hk.1.2) (.int .i64 t303)) (fun _ hk => hk.1.2) (.int .i64 t304)) (fun _ hk => hk.2) (.int .i64 t305)) (fun _ hk => hk.2) (.int .i64 t306)) (fun _ h_ => h_.1)) (fun _ h_ => h_.1))) hb); have n1_ := am (blk_below (g := gb299) (o := .cells #[.int .i64 t293, .bool t294, .bool t295, .slice Ao19 t296.length co19] 25 (0, 0)) (by (with_reducible repeat (first | refine blk_drewN ?_ _ | refine blk_drew ?_ | refine blk_alloc ?_ _)); refine blk_far ?_ NB299_308.out _; (with_reducible repeat (first | refine blk_drewN ?_ _ | refine blk_drew ?_ | refine blk_alloc ?_ _)); refine blk_far ?_ NB299_308.out _; (with_reducible repeat (first | refine blk_drewN ?_ _ | refine blk_drew ?_ | refine blk_alloc ?_ _)); refine blk_far ?_ NB299_307.out _; (with_reducible repeat (first | refine blk_drewN ?_ _ | refine blk_drew ?_ | refine blk_alloc ?_ _)); refine blk_far ?_ NB299_307.out _; (with_reducible repeat (first | refine blk_drewN ?_ _ | refine blk_drew ?_ | refine blk_alloc ?_ _)); exact BK299.out) hb); have n2_ := am (blk_below (g := gb307) (o := .cells #[.int .i64 t303, .int .i64 t304] 34 (0, 0)) (by (with_reducible repeat (first | refine blk_drewN ?_ _ | refine blk_drew ?_ | refine blk_alloc ?_ _)); refine blk_far ?_ NB307_308.out _; (with_reducible repeat (first | refine blk_drewN ?_ _ | refine blk_drew ?_ | refine blk_alloc ?_ _)); refine blk_far ?_ NB307_308.out _; (with_reducible repeat (first | refine blk_drewN ?_ _ | refine blk_drew ?_ | refine blk_alloc ?_ _)); refine blk_put (cs := #[.int .i64 t303, .int .i64 0]) ?_ 1 _ rfl; (with_reducible repeat (first | refine blk_drewN ?_ _ | refine blk_drew ?_ | refine blk_alloc ?_ _)); refine blk_put (cs := #[.int .i64 0, .int .i64 0]) ?_ 0 _ rfl; (with_reducible repeat (first | refine blk_drewN ?_ _ | refine blk_drew ?_ | refine blk_alloc ?_ _)); exact BK307.out) hb); have n3_ := am (blk_below (g := gb308) (o := .cells #[.int .i64 t305, .int .i64 t306] 34 (0, 0)) (by (with_reducible repeat (first | refine blk_drewN ?_ _ | refine blk_drew ?_ | refine blk_alloc ?_ _)); refine blk_put (cs := #[.int .i64 t305, .int .i64 0]) ?_ 1 _ rfl; (with_reducible repeat (first | refine blk_drewN ?_ _ | refine blk_drew ?_ | refine blk_alloc ?_ _)); refine blk_put (cs := #[.int .i64 0, .int .i64 0]) ?_ 0 _ rfl; (with_reducible repeat (first | refine blk_drewN ?_ _ | refine blk_drew ?_ | refine blk_alloc ?_ _)); refine blk_far ?_ NB308_307.out _; (with_reducible repeat (first | refine blk_drewN ?_ _ | refine blk_drew ?_ | refine blk_alloc ?_ _)); refine blk_far ?_ NB308_307.out _; (with_reducible repeat (first | refine blk_drewN ?_ _ | refine blk_drew ?_ | refine blk_alloc ?_ _)); exact BK308.out) hb); have n4_ := am (below_step (xh HB) hb); clear HO298; clear BK299; clear BK307; clear BK308; clear HB; have HO298 := n0_; have BK299 := n1_; have BK307 := n2_; have BK308 := n3_; have HB := n4_; clear n0_ n1_ n2_ n3_ n4_; (try clear hb); (try clear hb2); (try clear hk); (try clear hi)))
  go_ret
  exact ⟨by first | rfl | (simp [errW_none, errW_some] <;> rfl) | (simp [*, errW_none, errW_some] <;> rfl), xh HB⟩
 ·
  rw [if_neg c7] at H
  have c7b0 : (t300 == 0) = false := beq_eq_false_iff_ne.mpr c7
  have c7b1 : (t300 != 0) = true := bne_iff_ne.mpr c7
  replace H := Option.bind_eq_some_iff.mp H
  obtain ⟨t301, A370, H⟩ := H
  replace H : (some t301) = some r := H
  have A37 := am A370
  clear A370
  obtain rfl := Option.some.inj H
  go_enter Try.func6, Try.ntmps6
  go_wp2_with (first | ((with_reducible refine gate_callee (f := 9) rfl ?_); refine goesL_ (some 15) rfl rfl Try.func9 (by kernel_rfl) rfl #[.slice A0 l0.length c0, .int .i64 0, .int .i64 0] rfl xv ?_; (with_reducible refine (minecontrollaw07_made.calls k _ _ l0 0 0 t293 t294 t295 t296 _ ?side1 ?side2 A5.out).mono ?_); (case side1 => exact xc HR0); (case side2 => exact HC0.out); rintro e w38 ⟨v297, rfl, ho0, hb⟩; refine ⟨_, rfl, ?_⟩; have n0_ := am (Kd.R_lower ho0 (below_size (xh HB))); have n1_ := am (below_step (xh HB) hb); clear HB; have HO298 := n0_; have HB := n1_; clear n0_ n1_; (try clear hb); (try clear hb2); (try clear hk); (try clear hi); (try clear ho0)) | ((with_reducible refine gate_dst (N := 9) rfl ?_); refine xbox 9 (cs := #[.int .i64 0, .bool false, .bool false, .slice none 0 0]) (t := 25) ?_; intro gb299 hg w39 hbox hb; have n0_ := am (Kd.R_below (xk HO298) hb); have n1_ := am (below_step (xh HB) hb); have n2_ := am (hbox); have n3_ := am (xs hg HB); have n4_ := am (xs hg HB); clear HO298; clear HB; have HO298 := n0_; have HB := n1_; have BK299 := n2_; have GW299 := n3_; have GE299 := n4_; clear n0_ n1_ n2_ n3_ n4_; clear hb hbox hg; have hcz40_0 : w39.cell? ⟨gb299, 0, none⟩ = some (.int .i64 0) := (blk_cell BK299.out 0).trans rfl; have hcz40_1 : w39.cell? ⟨gb299, 1, none⟩ = some (.bool false) := (blk_cell BK299.out 1).trans rfl; have hcz40_2 : w39.cell? ⟨gb299, 2, none⟩ = some (.bool false) := (blk_cell BK299.out 2).trans rfl; have hcz40_3 : w39.cell? ⟨gb299, 3, none⟩ = some (.slice none 0 0) := (blk_cell BK299.out 3).trans rfl; have hfz40_0 := blk_frozen BK299.out 0; have hfz40_1 := blk_frozen BK299.out 1; have hfz40_2 := blk_frozen BK299.out 2; have hfz40_3 := blk_frozen BK299.out 3; obtain ⟨Ao41, co41, eo41⟩ := Kd.R_slice HO298.out; subst eo41) | ((with_reducible refine gate_callee (f := 11) rfl ?_); refine goesL_ (some 17) rfl rfl Try.func11 (by kernel_rfl) rfl #[.agg #[.int .i64 t293, .bool t294, .bool t295, .slice Ao41 t296.length co41]] rfl xv ?_; (with_reducible refine (minecontrolref07_Check.calls k t293 t294 t295 _ _ t296 t300 _ ?side1 ?side2 A6.out).mono ?_); (case side1 => refine (Kd.R_reads' (e := 42) (base := w.heap.size) (ok := fun k_ => True) (n := t296.length) (c := co41) ?_).2.2; exact (by (with_reducible repeat (first | apply Kd.R_alloc | apply Kd.R_drewN | apply Kd.R_drew)); exact (Kd.R_mono (Kd.R_far (p := ⟨gb299, 3, none⟩) (Kd.R_far (p := ⟨gb299, 2, none⟩) (Kd.R_far (p := ⟨gb299, 1, none⟩) (Kd.R_far (p := ⟨gb299, 0, none⟩) (Kd.R_types HO298.out BK299.out (by decide)) (fun _ hk => hk.2) (.int .i64 t293)) (fun _ hk => hk.2) (.bool t294)) (fun _ hk => hk.2) (.bool t295)) (fun _ hk => hk.2) (.slice Ao41 t296.length co41)) (fun _ h_ => h_.1)))); (case side2 => exact (Kd.R_reads' HO298.out).2.1); rintro e w42 ⟨rfl, hb⟩; refine ⟨_, rfl, ?_⟩; have n0_ := am (Kd.R_below (by (with_reducible repeat (first | apply Kd.R_alloc | apply Kd.R_drewN | apply Kd.R_drew)); exact (Kd.R_mono (Kd.R_far (p := ⟨gb299, 3, none⟩) (Kd.R_far (p := ⟨gb299, 2, none⟩) (Kd.R_far (p := ⟨gb299, 1, none⟩) (Kd.R_far (p := ⟨gb299, 0, none⟩) (Kd.R_types HO298.out BK299.out (by decide)) (fun _ hk => hk.2) (.int .i64 t293)) (fun _ hk => hk.2) (.bool t294)) (fun _ hk => hk.2) (.bool t295)) (fun _ hk => hk.2) (.slice Ao41 t296.length co41)) (fun _ h_ => h_.1))) hb); have n1_ := am (blk_below (g := gb299) (o := .cells #[.int .i64 t293, .bool t294, .bool t295, .slice Ao41 t296.length co41] 25 (0, 0)) (by (with_reducible repeat (first | refine blk_drewN ?_ _ | refine blk_drew ?_ | refine blk_alloc ?_ _)); refine blk_put (cs := #[.int .i64 t293, .bool t294, .bool t295, .slice none 0 0]) ?_ 3 _ rfl; (with_reducible repeat (first | refine blk_drewN ?_ _ | refine blk_drew ?_ | refine blk_alloc ?_ _)); refine blk_put (cs := #[.int .i64 t293, .bool t294, .bool false, .slice none 0 0]) ?_ 2 _ rfl; (with_reducible repeat (first | refine blk_drewN ?_ _ | refine blk_drew ?_ | refine blk_alloc ?_ _)); refine blk_put (cs := #[.int .i64 t293, .bool false, .bool false, .slice none 0 0]) ?_ 1 _ rfl; (with_reducible repeat (first | refine blk_drewN ?_ _ | refine blk_drew ?_ | refine blk_alloc ?_ _)); refine blk_put (cs := #[.int .i64 0, .bool false, .bool false, .slice none 0 0]) ?_ 0 _ rfl; (with_reducible repeat (first | refine blk_drewN ?_ _ | refine blk_drew ?_ | refine blk_alloc ?_ _)); exact BK299.out) hb); have n2_ := am (below_step (xh HB) hb); clear HO298; clear BK299; clear HB; have HO298 := n0_; have BK299 := n1_; have HB := n2_; clear n0_ n1_ n2_; (try clear hb); (try clear hb2); (try clear hk); (try clear hi)) | ((with_reducible refine gate_callee (f := 12) rfl ?_); refine goesL_ (some 19) rfl rfl Try.func12 (by kernel_rfl) rfl #[] rfl xv ?_; (with_reducible refine (minecontrollaw07_awake.calls k  t301 _ A37.out).mono ?_); rintro e w43 ⟨rfl, hb⟩; refine ⟨_, rfl, ?_⟩; have n0_ := am (Kd.R_below (xk HO298) hb); have n1_ := am (xw BK299 hb); have n2_ := am (below_step (xh HB) hb); clear HO298; clear BK299; clear HB; have HO298 := n0_; have BK299 := n1_; have HB := n2_; clear n0_ n1_ n2_; (try clear hb); (try clear hb2); (try clear hk); (try clear hi)))
  go_ret
  exact ⟨by first | rfl | (simp [errW_none, errW_some] <;> rfl) | (simp [*, errW_none, errW_some] <;> rfl), xh HB⟩

/-- THE ONE PURE STATEMENT of minecontrollaw07_FanFalls: yours. -/
def minecontrollaw07_FanFalls.Pure : Prop := ∀ (l0 : List Int) (a1 : Int) (a2 : Int) (a3 : Int), l0.length ≤ maxLen → l0.length * 1 ≤ 140737488351232 → (∀ x ∈ l0, (Lit.int .u8 x).wf = true) → (Lit.int .i64 a1).wf = true → (Lit.int .u8 a2).wf = true → (Lit.int .u8 a3).wf = true → ∃ k, minecontrollaw07_FanFalls.f k l0 a1 a2 a3 = some true
theorem minecontrollaw07_FanFalls.walk (P : minecontrollaw07_FanFalls.Pure) (a0 : Option Addr) (len0 cap0 : Nat) (z0 : List Int) (a1 : Int) (a2 : Int) (a3 : Int) (w : World) (w0 : (a0 = none ∧ len0 = 0 ∧ cap0 = 0 ∧ z0 = []) ∨ ∃ x, a0 = some x ∧ len0 ≤ cap0 ∧ cap0 ≤ maxLen ∧ z0.length = cap0 ∧ (∀ i, i < z0.length → w.cell? (x.add i) = some (.int .u8 (z0.getD i 0))) ∧ ∀ n ∈ z0, (Lit.int .u8 n).wf = true) (y0 : len0 * 1 ≤ 140737488351232) (w1 : (Lit.int .i64 a1).wf = true) (w2 : (Lit.int .u8 a2).wf = true) (w3 : (Lit.int .u8 a3).wf = true) :
  Calls Try.prog 6 #[.slice a0 len0 cap0, .int .i64 a1, .int .u8 a2, .int .u8 a3] w fun e w' => e = .returned (.bool true) ∧ Below w.heap.size w w' := by
 obtain ⟨l0, rfl, hr0, hm0, hw0, hc0⟩ := ReadsInt.ofRowC w0
 obtain ⟨k, h⟩ := P l0 a1 a2 a3 hm0 y0 hw0 w1 w2 w3
 refine (minecontrollaw07_FanFalls.calls k _ _ l0 a1 a2 a3 true w (Kd.C_of_reads (d := (0 : Int)) (h1 := fun _ => rfl) hr0) hc0 h).mono ?_
 rintro e w' ⟨rfl, hd⟩
 exact ⟨rfl, hd⟩

end Go.Proofs.Ytbiempkdfnfpgaa.PA
