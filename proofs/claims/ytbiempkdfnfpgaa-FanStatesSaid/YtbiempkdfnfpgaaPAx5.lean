-- written by a program of this session, a changed copy of the kit print
import Derived.Test.YtbiempkdfnfpgaaPAx0
import Derived.Test.YtbiempkdfnfpgaaQ
namespace Go.Proofs.Ytbiempkdfnfpgaa.PA
open Go.RowKit Go.Proofs.YtbiempkdfnfpgaaW.PrintWords Go.Proofs.YtbiempkdfnfpgaaW.PrintLast Go.Proofs.YtbiempkdfnfpgaaW.PrintMore Go.Proofs.Ytbiempkdfnfpgaa.Q
attribute [local go_sem] Instr.field asAgg part isAgg max2_int min2_int max_two min_two max_three min_three max_four min_four   -- for this text's walks alone
set_option linter.unusedVariables false
set_option linter.unusedSimpArgs false

/-! ### minecontrolref07_Check: function 11 -/
mutual
def minecontrolref07_Check.j0 : Nat → Bool → Int → Bool → Bool → List (S42) → Option (Int)
 | 0, _, _, _, _, _ => none
 | k + 1, x17, x155000, x155001, x155002, x155003 => if x17 = true then (some 2) else (minecontrolref07_Check.l0 k 0 x155000 x155001 x155002 x155003)
def minecontrolref07_Check.l0 : Nat → Int → Int → Bool → Bool → List (S42) → Option (Int)
 | 0, _, _, _, _, _ => none
 | k + 1, x3, x155000, x155001, x155002, x155003 => if x3 < (x155003.length : Int) then (if 0 ≤ x3 then (if ((rd_T42 x155003 x3).f0) < (-1048576) then (minecontrolref07_Check.j2 k x3 true x155000 x155001 x155002 x155003 ((rd_T42 x155003 x3).f0) ((rd_T42 x155003 x3).f1)) else (if ((rd_T42 x155003 x3).f0) > 1048576 then (minecontrolref07_Check.j2 k x3 true x155000 x155001 x155002 x155003 ((rd_T42 x155003 x3).f0) ((rd_T42 x155003 x3).f1)) else (if ((rd_T42 x155003 x3).f1) < 0 then (minecontrolref07_Check.j2 k x3 true x155000 x155001 x155002 x155003 ((rd_T42 x155003 x3).f0) ((rd_T42 x155003 x3).f1)) else (minecontrolref07_Check.j2 k x3 (decide (((rd_T42 x155003 x3).f1) > 2199023255552)) x155000 x155001 x155002 x155003 ((rd_T42 x155003 x3).f0) ((rd_T42 x155003 x3).f1))))) else (none)) else (some 0)
def minecontrolref07_Check.j2 : Nat → Int → Bool → Int → Bool → Bool → List (S42) → Int → Int → Option (Int)
 | 0, _, _, _, _, _, _, _, _ => none
 | k + 1, x3, x47, x155000, x155001, x155002, x155003, x157000, x157001 => if x47 = true then (some 1) else (if x3 > 0 then (if 0 ≤ (wrap64 (x3 - 1)) then (if (wrap64 (x3 - 1)) < (x155003.length : Int) then (if x157000 ≤ ((rd_T42 x155003 (wrap64 (x3 - 1))).f0) then (some 14) else (if x157001 > ((rd_T42 x155003 (wrap64 (x3 - 1))).f1) then (some 14) else (minecontrolref07_Check.l0 k (wrap64 (x3 + 1)) x155000 x155001 x155002 x155003))) else (none)) else (none)) else (minecontrolref07_Check.l0 k (wrap64 (x3 + 1)) x155000 x155001 x155002 x155003))
end
def minecontrolref07_Check.f (k : Nat) (a0_0 : Int) (a0_1 : Bool) (a0_2 : Bool) (l0_3 : List (S42)) : Option (Int) := if a0_0 < 0 then (some 4) else (if (l0_3.length : Int) < 1 then (minecontrolref07_Check.j0 k true a0_0 a0_1 a0_2 l0_3) else (minecontrolref07_Check.j0 k (decide ((l0_3.length : Int) > 8)) a0_0 a0_1 a0_2 l0_3))
theorem minecontrolref07_Check.mono_l : ∀ k, (∀ y0 y1 y2 y3 y4, LeO (minecontrolref07_Check.j0 k y0 y1 y2 y3 y4) (minecontrolref07_Check.j0 (k + 1) y0 y1 y2 y3 y4)) ∧ (∀ y0 y1 y2 y3 y4, LeO (minecontrolref07_Check.l0 k y0 y1 y2 y3 y4) (minecontrolref07_Check.l0 (k + 1) y0 y1 y2 y3 y4)) ∧ (∀ y0 y1 y2 y3 y4 y5 y6 y7, LeO (minecontrolref07_Check.j2 k y0 y1 y2 y3 y4 y5 y6 y7) (minecontrolref07_Check.j2 (k + 1) y0 y1 y2 y3 y4 y5 y6 y7))
 | 0 => ⟨fun _ _ _ _ _ r h => by simp [minecontrolref07_Check.j0] at h, fun _ _ _ _ _ r h => by simp [minecontrolref07_Check.l0] at h, fun _ _ _ _ _ _ _ _ r h => by simp [minecontrolref07_Check.j2] at h⟩
 | k + 1 => by
  obtain ⟨ih0, ih1, ih2⟩ := minecontrolref07_Check.mono_l k
  refine ⟨?_, ?_, ?_⟩
  ·
   intro y0 y1 y2 y3 y4
   unfold minecontrolref07_Check.j0
   repeat' first
   | (with_reducible exact ih0 _ _ _ _ _)
   | (with_reducible exact ih1 _ _ _ _ _)
   | (with_reducible exact ih2 _ _ _ _ _ _ _ _)
   | (with_reducible exact LeO.refl _)
   | (with_reducible exact LeO.none _)
   | (with_reducible refine LeO.ite ?_ ?_)
   | (with_reducible refine LeO.bind ?_ (fun _ => ?_))
   | exact ih0 _ _ _ _ _
   | exact ih1 _ _ _ _ _
   | exact ih2 _ _ _ _ _ _ _ _
   | exact LeO.none _
   | refine LeO.ite ?_ ?_
   | refine LeO.bind ?_ (fun _ => ?_)
  ·
   intro y0 y1 y2 y3 y4
   unfold minecontrolref07_Check.l0
   repeat' first
   | (with_reducible exact ih0 _ _ _ _ _)
   | (with_reducible exact ih1 _ _ _ _ _)
   | (with_reducible exact ih2 _ _ _ _ _ _ _ _)
   | (with_reducible exact LeO.refl _)
   | (with_reducible exact LeO.none _)
   | (with_reducible refine LeO.ite ?_ ?_)
   | (with_reducible refine LeO.bind ?_ (fun _ => ?_))
   | exact ih0 _ _ _ _ _
   | exact ih1 _ _ _ _ _
   | exact ih2 _ _ _ _ _ _ _ _
   | exact LeO.none _
   | refine LeO.ite ?_ ?_
   | refine LeO.bind ?_ (fun _ => ?_)
  intro y0 y1 y2 y3 y4 y5 y6 y7
  unfold minecontrolref07_Check.j2
  repeat' first
  | (with_reducible exact ih0 _ _ _ _ _)
  | (with_reducible exact ih1 _ _ _ _ _)
  | (with_reducible exact ih2 _ _ _ _ _ _ _ _)
  | (with_reducible exact LeO.refl _)
  | (with_reducible exact LeO.none _)
  | (with_reducible refine LeO.ite ?_ ?_)
  | (with_reducible refine LeO.bind ?_ (fun _ => ?_))
  | exact ih0 _ _ _ _ _
  | exact ih1 _ _ _ _ _
  | exact ih2 _ _ _ _ _ _ _ _
  | exact LeO.none _
  | refine LeO.ite ?_ ?_
  | refine LeO.bind ?_ (fun _ => ?_)
theorem minecontrolref07_Check.mono : ∀ a0 a1 a2 a3 k, LeO (minecontrolref07_Check.f k a0 a1 a2 a3) (minecontrolref07_Check.f (k + 1) a0 a1 a2 a3) := by
 intro a0 a1 a2 a3 k; obtain ⟨ih0, ih1, ih2⟩ := minecontrolref07_Check.mono_l k; unfold minecontrolref07_Check.f
 repeat' first
   | (with_reducible exact ih0 _ _ _ _ _)
   | (with_reducible exact ih1 _ _ _ _ _)
   | (with_reducible exact ih2 _ _ _ _ _ _ _ _)
   | (with_reducible exact LeO.refl _)
   | (with_reducible exact LeO.none _)
   | (with_reducible refine LeO.ite ?_ ?_)
   | (with_reducible refine LeO.bind ?_ (fun _ => ?_))
   | exact ih0 _ _ _ _ _
   | exact ih1 _ _ _ _ _
   | exact ih2 _ _ _ _ _ _ _ _
   | exact LeO.none _
   | refine LeO.ite ?_ ?_
   | refine LeO.bind ?_ (fun _ => ?_)
set_option maxHeartbeats 8000000 in
set_option maxRecDepth 100000 in
theorem minecontrolref07_Check.calls (k : Nat) (a0_0 : Int) (a0_1 : Bool) (a0_2 : Bool) (A0_3 : Option Addr) (c0_3 : Nat) (l0_3 : List (S42)) (r : Int) (w : World) (hr0_3 : Kd.C k42 w A0_3 l0_3.length l0_3) (hc0_3 : l0_3.length ≤ c0_3) (h : minecontrolref07_Check.f k a0_0 a0_1 a0_2 l0_3 = some r) :
  Calls Try.prog 11 #[.agg #[.int .i64 a0_0, .bool a0_1, .bool a0_2, .slice A0_3 l0_3.length c0_3]] w fun e w' => e = .returned (.int .i64 r) ∧ Below w.heap.size w w' := by
 have hu25 := Try.underlying25; have hu42 := Try.underlying42; have HR0_3 := am hr0_3; have HC0_3 := am hc0_3; clear hr0_3 hc0_3; have HB := am (Below.refl w.heap.size w); have H : (if a0_0 < 0 then (some 4) else (if (l0_3.length : Int) < 1 then (minecontrolref07_Check.j0 k true a0_0 a0_1 a0_2 l0_3) else (minecontrolref07_Check.j0 k (decide ((l0_3.length : Int) > 8)) a0_0 a0_1 a0_2 l0_3))) = some r := h; clear h
 by_cases c2 : a0_0 < 0
 ·
  rw [if_pos c2] at H
  have c2b0 : decide (a0_0 < 0) = true := decide_eq_true c2; clear c2; obtain rfl := Option.some.inj H; go_enter Try.func11, Try.ntmps11; go_wp2_with (first | ((with_reducible refine gate_dst (N := 1) rfl ?_); (try (refine gate_guard (by rfl) ?_; dsimp only)); refine xbox 1 (cs := #[.int .i64 a0_0, .bool a0_1, .bool a0_2, .slice A0_3 l0_3.length c0_3]) (t := 25) ?_; intro gb154 hg w3 hbox hb; have n0_ := yb HB hb; have n1_ := am hbox; have n2_ := ys hg HB; have n3_ := ys hg HB; clear HB; have HB := n0_; have BK154 := n1_; have GW154 := n2_; have GE154 := n3_; clear n0_ n1_ n2_ n3_; clear hb hbox hg; have hcz4_0 : w3.cell? ⟨gb154, 0, none⟩ = some (.int .i64 a0_0) := xz BK154 0; have hcz4_1 : w3.cell? ⟨gb154, 1, none⟩ = some (.bool a0_1) := xz BK154 1; have hcz4_2 : w3.cell? ⟨gb154, 2, none⟩ = some (.bool a0_2) := xz BK154 2; have hcz4_3 : w3.cell? ⟨gb154, 3, none⟩ = some (.slice A0_3 l0_3.length c0_3) := xz BK154 3; have hfz4_0 := blk_frozen BK154.out 0; have hfz4_1 := blk_frozen BK154.out 1; have hfz4_2 := blk_frozen BK154.out 2; have hfz4_3 := blk_frozen BK154.out 3))
  repeat (go_quiet (first | ((with_reducible refine gate_dst (N := 1) rfl ?_); (try (refine gate_guard (by rfl) ?_; dsimp only)); refine xbox 1 (cs := #[.int .i64 a0_0, .bool a0_1, .bool a0_2, .slice A0_3 l0_3.length c0_3]) (t := 25) ?_; intro gb154 hg w3 hbox hb; have n0_ := yb HB hb; have n1_ := am hbox; have n2_ := ys hg HB; have n3_ := ys hg HB; clear HB; have HB := n0_; have BK154 := n1_; have GW154 := n2_; have GE154 := n3_; clear n0_ n1_ n2_ n3_; clear hb hbox hg; have hcz4_0 : w3.cell? ⟨gb154, 0, none⟩ = some (.int .i64 a0_0) := xz BK154 0; have hcz4_1 : w3.cell? ⟨gb154, 1, none⟩ = some (.bool a0_1) := xz BK154 1; have hcz4_2 : w3.cell? ⟨gb154, 2, none⟩ = some (.bool a0_2) := xz BK154 2; have hcz4_3 : w3.cell? ⟨gb154, 3, none⟩ = some (.slice A0_3 l0_3.length c0_3) := xz BK154 3; have hfz4_0 := blk_frozen BK154.out 0; have hfz4_1 := blk_frozen BK154.out 1; have hfz4_2 := blk_frozen BK154.out 2; have hfz4_3 := blk_frozen BK154.out 3)); try go_wp2_with (first | ((with_reducible refine gate_dst (N := 1) rfl ?_); (try (refine gate_guard (by rfl) ?_; dsimp only)); refine xbox 1 (cs := #[.int .i64 a0_0, .bool a0_1, .bool a0_2, .slice A0_3 l0_3.length c0_3]) (t := 25) ?_; intro gb154 hg w3 hbox hb; have n0_ := yb HB hb; have n1_ := am hbox; have n2_ := ys hg HB; have n3_ := ys hg HB; clear HB; have HB := n0_; have BK154 := n1_; have GW154 := n2_; have GE154 := n3_; clear n0_ n1_ n2_ n3_; clear hb hbox hg; have hcz4_0 : w3.cell? ⟨gb154, 0, none⟩ = some (.int .i64 a0_0) := xz BK154 0; have hcz4_1 : w3.cell? ⟨gb154, 1, none⟩ = some (.bool a0_1) := xz BK154 1; have hcz4_2 : w3.cell? ⟨gb154, 2, none⟩ = some (.bool a0_2) := xz BK154 2; have hcz4_3 : w3.cell? ⟨gb154, 3, none⟩ = some (.slice A0_3 l0_3.length c0_3) := xz BK154 3; have hfz4_0 := blk_frozen BK154.out 0; have hfz4_1 := blk_frozen BK154.out 1; have hfz4_2 := blk_frozen BK154.out 2; have hfz4_3 := blk_frozen BK154.out 3)))
  go_ret; exact ⟨by first | rfl | (simp [errW_none, errW_some] <;> rfl) | (simp [*, errW_none, errW_some] <;> rfl), xh HB⟩
 rw [if_neg c2] at H; have c2b0 : decide (a0_0 < 0) = false := decide_eq_false c2; clear c2; have HC5 := am H; clear H; go_enter Try.func11, Try.ntmps11; go_upto_region 3 with (first | ((with_reducible refine gate_dst (N := 1) rfl ?_); (try (refine gate_guard (by rfl) ?_; dsimp only)); refine xbox 1 (cs := #[.int .i64 a0_0, .bool a0_1, .bool a0_2, .slice A0_3 l0_3.length c0_3]) (t := 25) ?_; intro gb154 hg w6 hbox hb; have n0_ := yb HB hb; have n1_ := am hbox; have n2_ := ys hg HB; have n3_ := ys hg HB; clear HB; have HB := n0_; have BK154 := n1_; have GW154 := n2_; have GE154 := n3_; clear n0_ n1_ n2_ n3_; clear hb hbox hg; have hcz7_0 : w6.cell? ⟨gb154, 0, none⟩ = some (.int .i64 a0_0) := xz BK154 0; have hcz7_1 : w6.cell? ⟨gb154, 1, none⟩ = some (.bool a0_1) := xz BK154 1; have hcz7_2 : w6.cell? ⟨gb154, 2, none⟩ = some (.bool a0_2) := xz BK154 2; have hcz7_3 : w6.cell? ⟨gb154, 3, none⟩ = some (.slice A0_3 l0_3.length c0_3) := xz BK154 3; have hfz7_0 := blk_frozen BK154.out 0; have hfz7_1 := blk_frozen BK154.out 1; have hfz7_2 := blk_frozen BK154.out 2; have hfz7_3 := blk_frozen BK154.out 3))
 repeat (go_quiet (first | ((with_reducible refine gate_dst (N := 1) rfl ?_); (try (refine gate_guard (by rfl) ?_; dsimp only)); refine xbox 1 (cs := #[.int .i64 a0_0, .bool a0_1, .bool a0_2, .slice A0_3 l0_3.length c0_3]) (t := 25) ?_; intro gb154 hg w6 hbox hb; have n0_ := yb HB hb; have n1_ := am hbox; have n2_ := ys hg HB; have n3_ := ys hg HB; clear HB; have HB := n0_; have BK154 := n1_; have GW154 := n2_; have GE154 := n3_; clear n0_ n1_ n2_ n3_; clear hb hbox hg; have hcz7_0 : w6.cell? ⟨gb154, 0, none⟩ = some (.int .i64 a0_0) := xz BK154 0; have hcz7_1 : w6.cell? ⟨gb154, 1, none⟩ = some (.bool a0_1) := xz BK154 1; have hcz7_2 : w6.cell? ⟨gb154, 2, none⟩ = some (.bool a0_2) := xz BK154 2; have hcz7_3 : w6.cell? ⟨gb154, 3, none⟩ = some (.slice A0_3 l0_3.length c0_3) := xz BK154 3; have hfz7_0 := blk_frozen BK154.out 0; have hfz7_1 := blk_frozen BK154.out 1; have hfz7_2 := blk_frozen BK154.out 2; have hfz7_3 := blk_frozen BK154.out 3)); go_upto_region 3 with (first | ((with_reducible refine gate_dst (N := 1) rfl ?_); (try (refine gate_guard (by rfl) ?_; dsimp only)); refine xbox 1 (cs := #[.int .i64 a0_0, .bool a0_1, .bool a0_2, .slice A0_3 l0_3.length c0_3]) (t := 25) ?_; intro gb154 hg w6 hbox hb; have n0_ := yb HB hb; have n1_ := am hbox; have n2_ := ys hg HB; have n3_ := ys hg HB; clear HB; have HB := n0_; have BK154 := n1_; have GW154 := n2_; have GE154 := n3_; clear n0_ n1_ n2_ n3_; clear hb hbox hg; have hcz7_0 : w6.cell? ⟨gb154, 0, none⟩ = some (.int .i64 a0_0) := xz BK154 0; have hcz7_1 : w6.cell? ⟨gb154, 1, none⟩ = some (.bool a0_1) := xz BK154 1; have hcz7_2 : w6.cell? ⟨gb154, 2, none⟩ = some (.bool a0_2) := xz BK154 2; have hcz7_3 : w6.cell? ⟨gb154, 3, none⟩ = some (.slice A0_3 l0_3.length c0_3) := xz BK154 3; have hfz7_0 := blk_frozen BK154.out 0; have hfz7_1 := blk_frozen BK154.out 1; have hfz7_2 := blk_frozen BK154.out 2; have hfz7_3 := blk_frozen BK154.out 3)))
 (try simp only [Act.put, List.setIfInBounds_toArray, List.set_cons_zero, List.set_cons_succ]); go_cut [17] (fun v17 wc => ∃ (kq : Nat) (x17_4 : Bool), v17 = .bool x17_4 ∧ Aside0 (minecontrolref07_Check.j0 kq x17_4 a0_0 a0_1 a0_2 l0_3 = some r) ∧ Aside0 (kq ≤ k) ∧ Aside0 (wc.heap[gb154]? = some (.cells #[.int .i64 a0_0, .bool a0_1, .bool a0_2, (.slice A0_3 l0_3.length c0_3)] 25 (0, 0))) ∧ Aside0 (Below w.heap.size w wc))
 case first =>
  have H := HC5.out; clear HC5
  by_cases c8 : (l0_3.length : Int) < 1
  ·
   rw [if_pos c8] at H
   have c8b0 : decide ((l0_3.length : Int) < 1) = true := decide_eq_true c8; have c8b1 : decide (l0_3.length < 1) = true := decide_eq_true (by omega); clear c8; (first | rw [c8b0] | (simp only [i64_w, i32_w]; rw [c8b0]) | skip); have H' := am H; clear H; have hcz9_0 : w6.cell? ⟨gb154, 0, none⟩ = some (.int .i64 a0_0) := xz BK154 0; have hcz9_1 : w6.cell? ⟨gb154, 1, none⟩ = some (.bool a0_1) := xz BK154 1; have hcz9_2 : w6.cell? ⟨gb154, 2, none⟩ = some (.bool a0_2) := xz BK154 2; have hcz9_3 : w6.cell? ⟨gb154, 3, none⟩ = some (.slice A0_3 l0_3.length c0_3) := xz BK154 3; have hfz9_0 := blk_frozen BK154.out 0; have hfz9_1 := blk_frozen BK154.out 1; have hfz9_2 := blk_frozen BK154.out 2; have hfz9_3 := blk_frozen BK154.out 3; go_wp2
   repeat (go_quiet (fail); try go_wp2)
   go_meet
   case rel => exact ⟨_, (true), xr, H', ⟨by first | omega | exact Nat.le_refl _⟩, ⟨xb BK154⟩, ⟨xh HB⟩⟩
  rw [if_neg c8] at H; have c8b0 : decide ((l0_3.length : Int) < 1) = false := decide_eq_false c8; have c8b1 : decide (l0_3.length < 1) = false := decide_eq_false (by omega); clear c8; (first | rw [c8b0] | (simp only [i64_w, i32_w]; rw [c8b0]) | skip); have H' := am H; clear H; have hcz10_0 : w6.cell? ⟨gb154, 0, none⟩ = some (.int .i64 a0_0) := xz BK154 0; have hcz10_1 : w6.cell? ⟨gb154, 1, none⟩ = some (.bool a0_1) := xz BK154 1; have hcz10_2 : w6.cell? ⟨gb154, 2, none⟩ = some (.bool a0_2) := xz BK154 2; have hcz10_3 : w6.cell? ⟨gb154, 3, none⟩ = some (.slice A0_3 l0_3.length c0_3) := xz BK154 3; have hfz10_0 := blk_frozen BK154.out 0; have hfz10_1 := blk_frozen BK154.out 1; have hfz10_2 := blk_frozen BK154.out 2; have hfz10_3 := blk_frozen BK154.out 3; go_wp2
  repeat (go_quiet (fail); try go_wp2)
  go_meet
  case rel => exact ⟨_, (decide ((l0_3.length : Int) > 8)), xr, H', ⟨by first | omega | exact Nat.le_refl _⟩, ⟨xb BK154⟩, ⟨xh HB⟩⟩
 case rest =>
  clear HC5
  try clear c1
  try clear c2
  try clear c2b0
  try clear p2
  try clear c8
  try clear c8b0
  try clear c8b1
  try clear hcz10_0
  try clear hcz10_1
  try clear hcz10_2
  try clear hcz10_3
  try clear hcz4_0
  try clear hcz4_1
  try clear hcz4_2
  try clear hcz4_3
  try clear hcz7_0
  try clear hcz7_1
  try clear hcz7_2
  try clear hcz7_3
  try clear hcz9_0
  try clear hcz9_1
  try clear hcz9_2
  try clear hcz9_3
  try clear hfz10_0
  try clear hfz10_1
  try clear hfz10_2
  try clear hfz10_3
  try clear hfz4_0
  try clear hfz4_1
  try clear hfz4_2
  try clear hfz4_3
  try clear hfz7_0
  try clear hfz7_1
  try clear hfz7_2
  try clear hfz7_3
  try clear hfz9_0
  try clear hfz9_1
  try clear hfz9_2
  try clear hfz9_3
  obtain ⟨kq, x17_4, rfl, HA, HJ4, BK154, HB⟩ := hcut
  cases kq with
  | zero => exact absurd HA.out (by simp [minecontrolref07_Check.j0])
  | succ kj4 =>
   have H := HA.out; clear HA; simp only [minecontrolref07_Check.j0] at H
   by_cases c11 : x17_4 = true
   ·
    subst c11
    (have H1 : (some 2) = some r := by rw [if_pos rfl] at H; exact H); clear H; have H := H1; clear H1; obtain rfl := Option.some.inj H; go_wp2
    repeat (go_quiet (fail); try go_wp2)
    go_ret; exact ⟨by first | rfl | (simp [errW_none, errW_some] <;> rfl) | (simp [*, errW_none, errW_some] <;> rfl), xh HB⟩
   replace c11 := Bool.eq_false_iff.mpr c11; subst c11; (have H1 : (minecontrolref07_Check.l0 kj4 0 a0_0 a0_1 a0_2 l0_3) = some r := by rw [if_neg (show ¬ (false = true) by decide)] at H; exact H); clear H; have H := H1; clear H1; have H' := am H; clear H; go_wp2
   repeat (go_quiet (fail); try go_wp2)
   go_loopg [3] kj4 (fun kq v3 w' => ∃ (x3_2 : Int), v3 = .int .i64 x3_2 ∧ Aside0 (minecontrolref07_Check.l0 kq x3_2 a0_0 a0_1 a0_2 l0_3 = some r) ∧ Aside0 (kq ≤ kj4) ∧ Aside0 (w'.heap[gb154]? = some (.cells #[.int .i64 a0_0, .bool a0_1, .bool a0_2, (.slice A0_3 l0_3.length c0_3)] 25 (0, 0))) ∧ Aside0 (Below w.heap.size w w'))
   case atStart => exact ⟨(0), xr, H', ⟨Nat.le_refl _⟩, ⟨xb BK154⟩, ⟨xh HB⟩⟩
   case round =>
    clear H'
    try clear c1
    try clear c2
    try clear c2b0
    try clear p2
    try clear c8
    try clear c8b0
    try clear c8b1
    try clear c11
    try clear hcz10_0
    try clear hcz10_1
    try clear hcz10_2
    try clear hcz10_3
    try clear hcz4_0
    try clear hcz4_1
    try clear hcz4_2
    try clear hcz4_3
    try clear hcz7_0
    try clear hcz7_1
    try clear hcz7_2
    try clear hcz7_3
    try clear hcz9_0
    try clear hcz9_1
    try clear hcz9_2
    try clear hcz9_3
    try clear hfz10_0
    try clear hfz10_1
    try clear hfz10_2
    try clear hfz10_3
    try clear hfz4_0
    try clear hfz4_1
    try clear hfz4_2
    try clear hfz4_3
    try clear hfz7_0
    try clear hfz7_1
    try clear hfz7_2
    try clear hfz7_3
    try clear hfz9_0
    try clear hfz9_1
    try clear hfz9_2
    try clear hfz9_3
    try clear p2
    obtain ⟨x3_2, rfl, HA, HK2, BK154, HB⟩ := hrel
    cases gk with
    | zero => exact absurd HA.out (by simp [minecontrolref07_Check.l0])
    | succ k2 =>
     have H := HA.out; clear HA; simp only [minecontrolref07_Check.l0] at H
     by_cases c12 : x3_2 < (l0_3.length : Int)
     ·
      rw [if_pos c12] at H
      have c12b0 : decide (x3_2 < (l0_3.length : Int)) = true := decide_eq_true c12; clear c12
      by_cases c13 : 0 ≤ x3_2
      rotate_left
      · rw [if_neg c13] at H; exact absurd H (by simp)
      rw [if_pos c13] at H; have c13b0 : decide (0 ≤ x3_2) = true := decide_eq_true c13; clear c13; have HC14 := am H; clear H; have hcz15_0 : wr.cell? ⟨gb154, 0, none⟩ = some (.int .i64 a0_0) := xz BK154 0; have hcz15_1 : wr.cell? ⟨gb154, 1, none⟩ = some (.bool a0_1) := xz BK154 1; have hcz15_2 : wr.cell? ⟨gb154, 2, none⟩ = some (.bool a0_2) := xz BK154 2; have hcz15_3 : wr.cell? ⟨gb154, 3, none⟩ = some (.slice A0_3 l0_3.length c0_3) := xz BK154 3; have hfz15_0 := blk_frozen BK154.out 0; have hfz15_1 := blk_frozen BK154.out 1; have hfz15_2 := blk_frozen BK154.out 2; have hfz15_3 := blk_frozen BK154.out 3; have p155 : 0 ≤ (x3_2 : Int) := of_decide_eq_true xa; have q155 : x3_2 < (l0_3.length : Int) := of_decide_eq_true xa; obtain ⟨ad155, e155, hx155_0, hx155_1⟩ := at_T42 HR0_3.out x3_2 p155 q155
      cases e155
      replace hx155_0 := (HB.out.cell (World.block_lt_of_cell? w _ hx155_0)).trans hx155_0; replace hx155_1 := (HB.out.cell (World.block_lt_of_cell? w _ hx155_1)).trans hx155_1; replace p155 := eq_true p155; replace q155 := eq_true q155; go_upto_region 9 with (first | ((with_reducible refine gate_dst (N := 4) rfl ?_); (try (refine gate_guard (by rfl) ?_; dsimp only)); refine xbox 4 (cs := #[.int .i64 0, .int .i64 0]) (t := 42) ?_; intro gb156 hg w16 hbox hb; have n0_ := yw BK154 hb; have n1_ := yb HB hb; have n2_ := am hbox; have n3_ := ys hg HB; have n4_ := ys hg HB; have n5_ := yl hg BK154; have n6_ := yg hg BK154; clear BK154; clear HB; have BK154 := n0_; have HB := n1_; have BK156 := n2_; have GW156 := n3_; have GE156 := n4_; have NB154_156 := n5_; have NB156_154 := n6_; clear n0_ n1_ n2_ n3_ n4_ n5_ n6_; clear hb hbox hg; have hnb17 := NB156_154.out; have hnc17 := NB154_156.out; have hcz18_0 : w16.cell? ⟨gb156, 0, none⟩ = some (.int .i64 0) := xz BK156 0; have hcz18_1 : w16.cell? ⟨gb156, 1, none⟩ = some (.int .i64 0) := xz BK156 1; have hfz18_0 := blk_frozen BK156.out 0; have hfz18_1 := blk_frozen BK156.out 1))
      repeat (go_quiet (first | ((with_reducible refine gate_dst (N := 4) rfl ?_); (try (refine gate_guard (by rfl) ?_; dsimp only)); refine xbox 4 (cs := #[.int .i64 0, .int .i64 0]) (t := 42) ?_; intro gb156 hg w16 hbox hb; have n0_ := yw BK154 hb; have n1_ := yb HB hb; have n2_ := am hbox; have n3_ := ys hg HB; have n4_ := ys hg HB; have n5_ := yl hg BK154; have n6_ := yg hg BK154; clear BK154; clear HB; have BK154 := n0_; have HB := n1_; have BK156 := n2_; have GW156 := n3_; have GE156 := n4_; have NB154_156 := n5_; have NB156_154 := n6_; clear n0_ n1_ n2_ n3_ n4_ n5_ n6_; clear hb hbox hg; have hnb17 := NB156_154.out; have hnc17 := NB154_156.out; have hcz18_0 : w16.cell? ⟨gb156, 0, none⟩ = some (.int .i64 0) := xz BK156 0; have hcz18_1 : w16.cell? ⟨gb156, 1, none⟩ = some (.int .i64 0) := xz BK156 1; have hfz18_0 := blk_frozen BK156.out 0; have hfz18_1 := blk_frozen BK156.out 1)); go_upto_region 9 with (first | ((with_reducible refine gate_dst (N := 4) rfl ?_); (try (refine gate_guard (by rfl) ?_; dsimp only)); refine xbox 4 (cs := #[.int .i64 0, .int .i64 0]) (t := 42) ?_; intro gb156 hg w16 hbox hb; have n0_ := yw BK154 hb; have n1_ := yb HB hb; have n2_ := am hbox; have n3_ := ys hg HB; have n4_ := ys hg HB; have n5_ := yl hg BK154; have n6_ := yg hg BK154; clear BK154; clear HB; have BK154 := n0_; have HB := n1_; have BK156 := n2_; have GW156 := n3_; have GE156 := n4_; have NB154_156 := n5_; have NB156_154 := n6_; clear n0_ n1_ n2_ n3_ n4_ n5_ n6_; clear hb hbox hg; have hnb17 := NB156_154.out; have hnc17 := NB154_156.out; have hcz18_0 : w16.cell? ⟨gb156, 0, none⟩ = some (.int .i64 0) := xz BK156 0; have hcz18_1 : w16.cell? ⟨gb156, 1, none⟩ = some (.int .i64 0) := xz BK156 1; have hfz18_0 := blk_frozen BK156.out 0; have hfz18_1 := blk_frozen BK156.out 1)))
      (try simp only [Act.put, List.setIfInBounds_toArray, List.set_cons_zero, List.set_cons_succ]); go_cut [47] (fun v47 wc => ∃ (kq : Nat) (x47_13 : Bool), v47 = .bool x47_13 ∧ Aside0 (minecontrolref07_Check.j2 kq x3_2 x47_13 a0_0 a0_1 a0_2 l0_3 ((rd_T42 l0_3 x3_2).f0) ((rd_T42 l0_3 x3_2).f1) = some r) ∧ Aside0 (kq ≤ k2) ∧ Aside0 (wc.heap[gb154]? = some (.cells #[.int .i64 a0_0, .bool a0_1, .bool a0_2, (.slice (some ad155) l0_3.length c0_3)] 25 (0, 0))) ∧ Aside0 (wc.heap[gb156]? = some (.cells #[.int .i64 ((rd_T42 l0_3 x3_2).f0), .int .i64 ((rd_T42 l0_3 x3_2).f1)] 42 (0, 0))) ∧ Aside0 (Below w.heap.size w wc))
      case first =>
       have H := HC14.out; clear HC14
       by_cases c19 : ((rd_T42 l0_3 x3_2).f0) < (-1048576)
       ·
        rw [if_pos c19] at H
        have c19b0 : decide (((rd_T42 l0_3 x3_2).f0) < (-1048576)) = true := decide_eq_true c19; clear c19; (first | rw [c19b0] | (simp only [i64_w, i32_w]; rw [c19b0]) | skip); have H' := am H; clear H; have hnb20 := NB156_154.out; have hnc20 := NB154_156.out; have hcz21_0 : w16.cell? ⟨gb156, 0, none⟩ = some (.int .i64 0) := xz BK156 0; have hcz21_1 : w16.cell? ⟨gb156, 1, none⟩ = some (.int .i64 0) := xz BK156 1; have hfz21_0 := blk_frozen BK156.out 0; have hfz21_1 := blk_frozen BK156.out 1; go_wp2
        repeat (go_quiet (fail); try go_wp2)
        go_meet
        case rel => exact ⟨_, (true), xr, H', ⟨by have := HJ4.out; have := HK2.out; first | omega | exact Nat.le_refl _⟩, ⟨by (with_reducible repeat (first | refine blk_drewN ?_ _ | refine blk_drew ?_ | refine blk_alloc ?_ _)); refine blk_far ?_ NB154_156.out _; (with_reducible repeat (first | refine blk_drewN ?_ _ | refine blk_drew ?_ | refine blk_alloc ?_ _)); refine blk_far ?_ NB154_156.out _; (with_reducible repeat (first | refine blk_drewN ?_ _ | refine blk_drew ?_ | refine blk_alloc ?_ _)); exact BK154.out⟩, ⟨by (with_reducible repeat (first | refine blk_drewN ?_ _ | refine blk_drew ?_ | refine blk_alloc ?_ _)); refine blk_put (cs := #[.int .i64 ((rd_T42 l0_3 x3_2).f0), .int .i64 0]) ?_ 1 _ rfl; (with_reducible repeat (first | refine blk_drewN ?_ _ | refine blk_drew ?_ | refine blk_alloc ?_ _)); refine blk_put (cs := #[.int .i64 0, .int .i64 0]) ?_ 0 _ rfl; (with_reducible repeat (first | refine blk_drewN ?_ _ | refine blk_drew ?_ | refine blk_alloc ?_ _)); exact BK156.out⟩, ⟨xh HB⟩⟩
       rw [if_neg c19] at H; have c19b0 : decide (((rd_T42 l0_3 x3_2).f0) < (-1048576)) = false := decide_eq_false c19; clear c19; (first | rw [c19b0] | (simp only [i64_w, i32_w]; rw [c19b0]) | skip)
       by_cases c22 : ((rd_T42 l0_3 x3_2).f0) > 1048576
       ·
        rw [if_pos c22] at H
        have c22b0 : decide (1048576 < ((rd_T42 l0_3 x3_2).f0)) = true := decide_eq_true c22; clear c22; have H' := am H; clear H; have hnb23 := NB156_154.out; have hnc23 := NB154_156.out; have hcz24_0 : w16.cell? ⟨gb156, 0, none⟩ = some (.int .i64 0) := xz BK156 0; have hcz24_1 : w16.cell? ⟨gb156, 1, none⟩ = some (.int .i64 0) := xz BK156 1; have hfz24_0 := blk_frozen BK156.out 0; have hfz24_1 := blk_frozen BK156.out 1; go_wp2
        repeat (go_quiet (fail); try go_wp2)
        go_meet
        case rel => exact ⟨_, (true), xr, H', ⟨by have := HJ4.out; have := HK2.out; first | omega | exact Nat.le_refl _⟩, ⟨by (with_reducible repeat (first | refine blk_drewN ?_ _ | refine blk_drew ?_ | refine blk_alloc ?_ _)); refine blk_far ?_ NB154_156.out _; (with_reducible repeat (first | refine blk_drewN ?_ _ | refine blk_drew ?_ | refine blk_alloc ?_ _)); refine blk_far ?_ NB154_156.out _; (with_reducible repeat (first | refine blk_drewN ?_ _ | refine blk_drew ?_ | refine blk_alloc ?_ _)); exact BK154.out⟩, ⟨by (with_reducible repeat (first | refine blk_drewN ?_ _ | refine blk_drew ?_ | refine blk_alloc ?_ _)); refine blk_put (cs := #[.int .i64 ((rd_T42 l0_3 x3_2).f0), .int .i64 0]) ?_ 1 _ rfl; (with_reducible repeat (first | refine blk_drewN ?_ _ | refine blk_drew ?_ | refine blk_alloc ?_ _)); refine blk_put (cs := #[.int .i64 0, .int .i64 0]) ?_ 0 _ rfl; (with_reducible repeat (first | refine blk_drewN ?_ _ | refine blk_drew ?_ | refine blk_alloc ?_ _)); exact BK156.out⟩, ⟨xh HB⟩⟩
       rw [if_neg c22] at H; have c22b0 : decide (1048576 < ((rd_T42 l0_3 x3_2).f0)) = false := decide_eq_false c22; clear c22
       by_cases c25 : ((rd_T42 l0_3 x3_2).f1) < 0
       ·
        rw [if_pos c25] at H
        have c25b0 : decide (((rd_T42 l0_3 x3_2).f1) < 0) = true := decide_eq_true c25; clear c25; have H' := am H; clear H; have hnb26 := NB156_154.out; have hnc26 := NB154_156.out; have hcz27_0 : w16.cell? ⟨gb156, 0, none⟩ = some (.int .i64 0) := xz BK156 0; have hcz27_1 : w16.cell? ⟨gb156, 1, none⟩ = some (.int .i64 0) := xz BK156 1; have hfz27_0 := blk_frozen BK156.out 0; have hfz27_1 := blk_frozen BK156.out 1; go_wp2
        repeat (go_quiet (fail); try go_wp2)
        go_meet
        case rel => exact ⟨_, (true), xr, H', ⟨by have := HJ4.out; have := HK2.out; first | omega | exact Nat.le_refl _⟩, ⟨by (with_reducible repeat (first | refine blk_drewN ?_ _ | refine blk_drew ?_ | refine blk_alloc ?_ _)); refine blk_far ?_ NB154_156.out _; (with_reducible repeat (first | refine blk_drewN ?_ _ | refine blk_drew ?_ | refine blk_alloc ?_ _)); refine blk_far ?_ NB154_156.out _; (with_reducible repeat (first | refine blk_drewN ?_ _ | refine blk_drew ?_ | refine blk_alloc ?_ _)); exact BK154.out⟩, ⟨by (with_reducible repeat (first | refine blk_drewN ?_ _ | refine blk_drew ?_ | refine blk_alloc ?_ _)); refine blk_put (cs := #[.int .i64 ((rd_T42 l0_3 x3_2).f0), .int .i64 0]) ?_ 1 _ rfl; (with_reducible repeat (first | refine blk_drewN ?_ _ | refine blk_drew ?_ | refine blk_alloc ?_ _)); refine blk_put (cs := #[.int .i64 0, .int .i64 0]) ?_ 0 _ rfl; (with_reducible repeat (first | refine blk_drewN ?_ _ | refine blk_drew ?_ | refine blk_alloc ?_ _)); exact BK156.out⟩, ⟨xh HB⟩⟩
       rw [if_neg c25] at H; have c25b0 : decide (((rd_T42 l0_3 x3_2).f1) < 0) = false := decide_eq_false c25; clear c25; have H' := am H; clear H; have hnb28 := NB156_154.out; have hnc28 := NB154_156.out; have hcz29_0 : w16.cell? ⟨gb156, 0, none⟩ = some (.int .i64 0) := xz BK156 0; have hcz29_1 : w16.cell? ⟨gb156, 1, none⟩ = some (.int .i64 0) := xz BK156 1; have hfz29_0 := blk_frozen BK156.out 0; have hfz29_1 := blk_frozen BK156.out 1; go_wp2
       repeat (go_quiet (fail); try go_wp2)
       go_meet
       case rel => exact ⟨_, (decide (((rd_T42 l0_3 x3_2).f1) > 2199023255552)), xr, H', ⟨by have := HJ4.out; have := HK2.out; first | omega | exact Nat.le_refl _⟩, ⟨by (with_reducible repeat (first | refine blk_drewN ?_ _ | refine blk_drew ?_ | refine blk_alloc ?_ _)); refine blk_far ?_ NB154_156.out _; (with_reducible repeat (first | refine blk_drewN ?_ _ | refine blk_drew ?_ | refine blk_alloc ?_ _)); refine blk_far ?_ NB154_156.out _; (with_reducible repeat (first | refine blk_drewN ?_ _ | refine blk_drew ?_ | refine blk_alloc ?_ _)); exact BK154.out⟩, ⟨by (with_reducible repeat (first | refine blk_drewN ?_ _ | refine blk_drew ?_ | refine blk_alloc ?_ _)); refine blk_put (cs := #[.int .i64 ((rd_T42 l0_3 x3_2).f0), .int .i64 0]) ?_ 1 _ rfl; (with_reducible repeat (first | refine blk_drewN ?_ _ | refine blk_drew ?_ | refine blk_alloc ?_ _)); refine blk_put (cs := #[.int .i64 0, .int .i64 0]) ?_ 0 _ rfl; (with_reducible repeat (first | refine blk_drewN ?_ _ | refine blk_drew ?_ | refine blk_alloc ?_ _)); exact BK156.out⟩, ⟨xh HB⟩⟩
      case rest =>
       clear HC14
       try clear c1
       try clear p1
       try clear q1
       try clear hx1
       try clear c2
       try clear c2b0
       try clear p2
       try clear c8
       try clear c8b0
       try clear c8b1
       try clear c11
       try clear c12
       try clear c12b0
       try clear c13
       try clear c13b0
       try clear p15
       try clear q15
       try clear hx15
       try clear c17
       try clear c19
       try clear c19b0
       try clear c20
       try clear c22
       try clear c22b0
       try clear c23
       try clear c25
       try clear c25b0
       try clear c26
       try clear c28
       try clear hcz10_0
       try clear hcz10_1
       try clear hcz10_2
       try clear hcz10_3
       try clear hcz15_0
       try clear hcz15_1
       try clear hcz15_2
       try clear hcz15_3
       try clear hcz18_0
       try clear hcz18_1
       try clear hcz21_0
       try clear hcz21_1
       try clear hcz24_0
       try clear hcz24_1
       try clear hcz27_0
       try clear hcz27_1
       try clear hcz29_0
       try clear hcz29_1
       try clear hcz4_0
       try clear hcz4_1
       try clear hcz4_2
       try clear hcz4_3
       try clear hcz7_0
       try clear hcz7_1
       try clear hcz7_2
       try clear hcz7_3
       try clear hcz9_0
       try clear hcz9_1
       try clear hcz9_2
       try clear hcz9_3
       try clear hfz10_0
       try clear hfz10_1
       try clear hfz10_2
       try clear hfz10_3
       try clear hfz15_0
       try clear hfz15_1
       try clear hfz15_2
       try clear hfz15_3
       try clear hfz18_0
       try clear hfz18_1
       try clear hfz21_0
       try clear hfz21_1
       try clear hfz24_0
       try clear hfz24_1
       try clear hfz27_0
       try clear hfz27_1
       try clear hfz29_0
       try clear hfz29_1
       try clear hfz4_0
       try clear hfz4_1
       try clear hfz4_2
       try clear hfz4_3
       try clear hfz7_0
       try clear hfz7_1
       try clear hfz7_2
       try clear hfz7_3
       try clear hfz9_0
       try clear hfz9_1
       try clear hfz9_2
       try clear hfz9_3
       try clear hx155_0
       try clear hx155_1
       try clear p155
       try clear p2
       try clear q155
       obtain ⟨kq, x47_13, rfl, HA, HJ13, BK154, BK156, HB⟩ := hcut
       cases kq with
       | zero => exact absurd HA.out (by simp [minecontrolref07_Check.j2])
       | succ kj13 =>
        have H := HA.out; clear HA; simp only [minecontrolref07_Check.j2] at H
        by_cases c30 : x47_13 = true
        ·
         subst c30
         (have H1 : (some 1) = some r := by rw [if_pos rfl] at H; exact H); clear H; have H := H1; clear H1; obtain rfl := Option.some.inj H; go_wp2
         repeat (go_quiet (fail); try go_wp2)
         go_ret; exact ⟨by first | rfl | (simp [errW_none, errW_some] <;> rfl) | (simp [*, errW_none, errW_some] <;> rfl), xh HB⟩
        replace c30 := Bool.eq_false_iff.mpr c30; subst c30; (have H1 : (if x3_2 > 0 then (if 0 ≤ (wrap64 (x3_2 - 1)) then (if (wrap64 (x3_2 - 1)) < (l0_3.length : Int) then (if ((rd_T42 l0_3 x3_2).f0) ≤ ((rd_T42 l0_3 (wrap64 (x3_2 - 1))).f0) then (some 14) else (if ((rd_T42 l0_3 x3_2).f1) > ((rd_T42 l0_3 (wrap64 (x3_2 - 1))).f1) then (some 14) else (minecontrolref07_Check.l0 kj13 (wrap64 (x3_2 + 1)) a0_0 a0_1 a0_2 l0_3))) else (none)) else (none)) else (minecontrolref07_Check.l0 kj13 (wrap64 (x3_2 + 1)) a0_0 a0_1 a0_2 l0_3)) = some r := by rw [if_neg (show ¬ (false = true) by decide)] at H; exact H); clear H; have H := H1; clear H1
        by_cases c31 : x3_2 > 0
        ·
         rw [if_pos c31] at H
         have c31b0 : decide (0 < x3_2) = true := decide_eq_true c31; clear c31; obtain ⟨ji32, hji32⟩ : ∃ j_ : Int, (wrap64 (x3_2 - 1)) = j_ := ⟨_, rfl⟩; (replace H : (if 0 ≤ (ji32) then (if (ji32) < (l0_3.length : Int) then (if ((rd_T42 l0_3 x3_2).f0) ≤ ((rd_T42 l0_3 (ji32)).f0) then (some 14) else (if ((rd_T42 l0_3 x3_2).f1) > ((rd_T42 l0_3 (ji32)).f1) then (some 14) else (minecontrolref07_Check.l0 kj13 (wrap64 (x3_2 + 1)) a0_0 a0_1 a0_2 l0_3))) else (none)) else (none)) = some r := by first | (rw [hji32] at H; exact H) | (simp only [hji32] at H ⊢; exact H)); have hji32w : (IntKind.i64.wrap (x3_2 - 1)) = ji32 := (i64_w _).trans hji32
         by_cases c33 : 0 ≤ (ji32)
         rotate_left
         · rw [if_neg c33] at H; exact absurd H (by simp)
         rw [if_pos c33] at H; have c33b0 : decide (0 ≤ (ji32)) = true := decide_eq_true c33; clear c33
         by_cases c34 : (ji32) < (l0_3.length : Int)
         rotate_left
         · rw [if_neg c34] at H; exact absurd H (by simp)
         rw [if_pos c34] at H; have c34b0 : decide ((ji32) < (l0_3.length : Int)) = true := decide_eq_true c34; clear c34
         by_cases c35 : ((rd_T42 l0_3 x3_2).f0) ≤ ((rd_T42 l0_3 (ji32)).f0)
         ·
          rw [if_pos c35] at H
          have c35b0 : decide (((rd_T42 l0_3 x3_2).f0) ≤ ((rd_T42 l0_3 (ji32)).f0)) = true := decide_eq_true c35; clear c35; obtain rfl := Option.some.inj H; have hnb36 := NB156_154.out; have hnc36 := NB154_156.out; have hcz37_0 : wc.cell? ⟨gb156, 0, none⟩ = some (.int .i64 ((rd_T42 l0_3 x3_2).f0)) := xz BK156 0; have hcz37_1 : wc.cell? ⟨gb156, 1, none⟩ = some (.int .i64 ((rd_T42 l0_3 x3_2).f1)) := xz BK156 1; have hfz37_0 := blk_frozen BK156.out 0; have hfz37_1 := blk_frozen BK156.out 1; have hcz38_0 : wc.cell? ⟨gb154, 0, none⟩ = some (.int .i64 a0_0) := xz BK154 0; have hcz38_1 : wc.cell? ⟨gb154, 1, none⟩ = some (.bool a0_1) := xz BK154 1; have hcz38_2 : wc.cell? ⟨gb154, 2, none⟩ = some (.bool a0_2) := xz BK154 2; have hcz38_3 : wc.cell? ⟨gb154, 3, none⟩ = some (.slice (some ad155) l0_3.length c0_3) := xz BK154 3; have hfz38_0 := blk_frozen BK154.out 0; have hfz38_1 := blk_frozen BK154.out 1; have hfz38_2 := blk_frozen BK154.out 2; have hfz38_3 := blk_frozen BK154.out 3; have p157 : 0 ≤ ((ji32) : Int) := of_decide_eq_true xa; have q157 : (ji32) < (l0_3.length : Int) := of_decide_eq_true xa; obtain ⟨ad157, e157, hx157_0, hx157_1⟩ := at_T42 HR0_3.out (ji32) p157 q157; obtain rfl : ad155 = ad157 := (by injection e157); replace hx157_0 := (HB.out.cell (World.block_lt_of_cell? w _ hx157_0)).trans hx157_0; replace hx157_1 := (HB.out.cell (World.block_lt_of_cell? w _ hx157_1)).trans hx157_1; replace p157 := eq_true p157; replace q157 := eq_true q157; go_wp2
          repeat (go_quiet (fail); try go_wp2)
          go_ret; exact ⟨by first | rfl | (simp [errW_none, errW_some] <;> rfl) | (simp only [← hji32]; first | rfl | (simp [errW_none, errW_some] <;> rfl)) | (simp [*, errW_none, errW_some] <;> rfl), xh HB⟩
         rw [if_neg c35] at H; have c35b0 : decide (((rd_T42 l0_3 x3_2).f0) ≤ ((rd_T42 l0_3 (ji32)).f0)) = false := decide_eq_false c35; clear c35
         by_cases c39 : ((rd_T42 l0_3 x3_2).f1) > ((rd_T42 l0_3 (ji32)).f1)
         ·
          rw [if_pos c39] at H
          have c39b0 : decide (((rd_T42 l0_3 (ji32)).f1) < ((rd_T42 l0_3 x3_2).f1)) = true := decide_eq_true c39; clear c39; obtain rfl := Option.some.inj H; have hnb40 := NB156_154.out; have hnc40 := NB154_156.out; have hcz41_0 : wc.cell? ⟨gb156, 0, none⟩ = some (.int .i64 ((rd_T42 l0_3 x3_2).f0)) := xz BK156 0; have hcz41_1 : wc.cell? ⟨gb156, 1, none⟩ = some (.int .i64 ((rd_T42 l0_3 x3_2).f1)) := xz BK156 1; have hfz41_0 := blk_frozen BK156.out 0; have hfz41_1 := blk_frozen BK156.out 1; have hcz42_0 : wc.cell? ⟨gb154, 0, none⟩ = some (.int .i64 a0_0) := xz BK154 0; have hcz42_1 : wc.cell? ⟨gb154, 1, none⟩ = some (.bool a0_1) := xz BK154 1; have hcz42_2 : wc.cell? ⟨gb154, 2, none⟩ = some (.bool a0_2) := xz BK154 2; have hcz42_3 : wc.cell? ⟨gb154, 3, none⟩ = some (.slice (some ad155) l0_3.length c0_3) := xz BK154 3; have hfz42_0 := blk_frozen BK154.out 0; have hfz42_1 := blk_frozen BK154.out 1; have hfz42_2 := blk_frozen BK154.out 2; have hfz42_3 := blk_frozen BK154.out 3; have p157 : 0 ≤ ((ji32) : Int) := of_decide_eq_true xa; have q157 : (ji32) < (l0_3.length : Int) := of_decide_eq_true xa; obtain ⟨ad157, e157, hx157_0, hx157_1⟩ := at_T42 HR0_3.out (ji32) p157 q157; obtain rfl : ad155 = ad157 := (by injection e157); replace hx157_0 := (HB.out.cell (World.block_lt_of_cell? w _ hx157_0)).trans hx157_0; replace hx157_1 := (HB.out.cell (World.block_lt_of_cell? w _ hx157_1)).trans hx157_1; replace p157 := eq_true p157; replace q157 := eq_true q157; have p158 : 0 ≤ ((ji32) : Int) := of_decide_eq_true xa; have q158 : (ji32) < (l0_3.length : Int) := of_decide_eq_true xa; obtain ⟨ad158, e158, hx158_0, hx158_1⟩ := at_T42 HR0_3.out (ji32) p158 q158; obtain rfl : ad155 = ad158 := (by injection e158); replace hx158_0 := (HB.out.cell (World.block_lt_of_cell? w _ hx158_0)).trans hx158_0; replace hx158_1 := (HB.out.cell (World.block_lt_of_cell? w _ hx158_1)).trans hx158_1; replace p158 := eq_true p158; replace q158 := eq_true q158; go_wp2
          repeat (go_quiet (fail); try go_wp2)
          go_ret; exact ⟨by first | rfl | (simp [errW_none, errW_some] <;> rfl) | (simp only [← hji32]; first | rfl | (simp [errW_none, errW_some] <;> rfl)) | (simp [*, errW_none, errW_some] <;> rfl), xh HB⟩
         rw [if_neg c39] at H; have c39b0 : decide (((rd_T42 l0_3 (ji32)).f1) < ((rd_T42 l0_3 x3_2).f1)) = false := decide_eq_false c39; clear c39; have H' := am H; clear H; have hnb43 := NB156_154.out; have hnc43 := NB154_156.out; have hcz44_0 : wc.cell? ⟨gb156, 0, none⟩ = some (.int .i64 ((rd_T42 l0_3 x3_2).f0)) := xz BK156 0; have hcz44_1 : wc.cell? ⟨gb156, 1, none⟩ = some (.int .i64 ((rd_T42 l0_3 x3_2).f1)) := xz BK156 1; have hfz44_0 := blk_frozen BK156.out 0; have hfz44_1 := blk_frozen BK156.out 1; have hcz45_0 : wc.cell? ⟨gb154, 0, none⟩ = some (.int .i64 a0_0) := xz BK154 0; have hcz45_1 : wc.cell? ⟨gb154, 1, none⟩ = some (.bool a0_1) := xz BK154 1; have hcz45_2 : wc.cell? ⟨gb154, 2, none⟩ = some (.bool a0_2) := xz BK154 2; have hcz45_3 : wc.cell? ⟨gb154, 3, none⟩ = some (.slice (some ad155) l0_3.length c0_3) := xz BK154 3; have hfz45_0 := blk_frozen BK154.out 0; have hfz45_1 := blk_frozen BK154.out 1; have hfz45_2 := blk_frozen BK154.out 2; have hfz45_3 := blk_frozen BK154.out 3; have p157 : 0 ≤ ((ji32) : Int) := of_decide_eq_true xa; have q157 : (ji32) < (l0_3.length : Int) := of_decide_eq_true xa; obtain ⟨ad157, e157, hx157_0, hx157_1⟩ := at_T42 HR0_3.out (ji32) p157 q157; obtain rfl : ad155 = ad157 := (by injection e157); replace hx157_0 := (HB.out.cell (World.block_lt_of_cell? w _ hx157_0)).trans hx157_0; replace hx157_1 := (HB.out.cell (World.block_lt_of_cell? w _ hx157_1)).trans hx157_1; replace p157 := eq_true p157; replace q157 := eq_true q157; have p158 : 0 ≤ ((ji32) : Int) := of_decide_eq_true xa; have q158 : (ji32) < (l0_3.length : Int) := of_decide_eq_true xa; obtain ⟨ad158, e158, hx158_0, hx158_1⟩ := at_T42 HR0_3.out (ji32) p158 q158; obtain rfl : ad155 = ad158 := (by injection e158); replace hx158_0 := (HB.out.cell (World.block_lt_of_cell? w _ hx158_0)).trans hx158_0; replace hx158_1 := (HB.out.cell (World.block_lt_of_cell? w _ hx158_1)).trans hx158_1; replace p158 := eq_true p158; replace q158 := eq_true q158; go_wp2
         repeat (go_quiet (fail); try go_wp2)
         go_roundg kj13
         case measure => have := HJ4.out; have := HK2.out; have := HJ13.out; omega
         case rel => exact ⟨(wrap64 (x3_2 + 1)), xr, H', ⟨by have := HJ4.out; have := HK2.out; have := HJ13.out; omega⟩, ⟨xb BK154⟩, ⟨xh HB⟩⟩
        rw [if_neg c31] at H; have c31b0 : decide (0 < x3_2) = false := decide_eq_false c31; clear c31; have H' := am H; clear H; go_wp2
        repeat (go_quiet (fail); try go_wp2)
        go_roundg kj13
        case measure => have := HJ4.out; have := HK2.out; have := HJ13.out; omega
        case rel => exact ⟨(wrap64 (x3_2 + 1)), xr, H', ⟨by have := HJ4.out; have := HK2.out; have := HJ13.out; omega⟩, ⟨xb BK154⟩, ⟨xh HB⟩⟩
     rw [if_neg c12] at H; have c12b0 : decide (x3_2 < (l0_3.length : Int)) = false := decide_eq_false c12; clear c12; obtain rfl := Option.some.inj H; have hcz46_0 : wr.cell? ⟨gb154, 0, none⟩ = some (.int .i64 a0_0) := xz BK154 0; have hcz46_1 : wr.cell? ⟨gb154, 1, none⟩ = some (.bool a0_1) := xz BK154 1; have hcz46_2 : wr.cell? ⟨gb154, 2, none⟩ = some (.bool a0_2) := xz BK154 2; have hcz46_3 : wr.cell? ⟨gb154, 3, none⟩ = some (.slice A0_3 l0_3.length c0_3) := xz BK154 3; have hfz46_0 := blk_frozen BK154.out 0; have hfz46_1 := blk_frozen BK154.out 1; have hfz46_2 := blk_frozen BK154.out 2; have hfz46_3 := blk_frozen BK154.out 3; go_wp2
     repeat (go_quiet (fail); try go_wp2)
     go_ret; exact ⟨by first | rfl | (simp [errW_none, errW_some] <;> rfl) | (simp [*, errW_none, errW_some] <;> rfl), xh HB⟩

/-! ### bits_Mul64: function 32 -/
def bits_Mul64.f (a0 : Int) (a1 : Int) : Option (Int × Int) := some (IntKind.u64.wrap ((IntKind.u64.wrap ((IntKind.u64.wrap ((a0 / 4294967296) * (a1 / 4294967296))) + ((IntKind.u64.wrap ((IntKind.u64.wrap ((a0 / 4294967296) * (Go.bits .and .u64 a1 4294967295))) + ((IntKind.u64.wrap ((Go.bits .and .u64 a0 4294967295) * (Go.bits .and .u64 a1 4294967295))) / 4294967296))) / 4294967296))) + ((IntKind.u64.wrap ((Go.bits .and .u64 (IntKind.u64.wrap ((IntKind.u64.wrap ((a0 / 4294967296) * (Go.bits .and .u64 a1 4294967295))) + ((IntKind.u64.wrap ((Go.bits .and .u64 a0 4294967295) * (Go.bits .and .u64 a1 4294967295))) / 4294967296))) 4294967295) + (IntKind.u64.wrap ((Go.bits .and .u64 a0 4294967295) * (a1 / 4294967296))))) / 4294967296)), IntKind.u64.wrap (a0 * a1))
set_option maxHeartbeats 8000000 in
set_option maxRecDepth 100000 in
theorem bits_Mul64.calls (a0 : Int) (a1 : Int) (r1 : Int) (r2 : Int) (w : World) (h : bits_Mul64.f a0 a1 = some (r1, r2)) :
  Calls Try.prog 32 #[.int .u64 a0, .int .u64 a1] w fun e w' => e = .returned (.tuple #[.int .u64 r1, .int .u64 r2]) ∧ Drawn0 w w' := by
 have H : (some (IntKind.u64.wrap ((IntKind.u64.wrap ((IntKind.u64.wrap ((a0 / 4294967296) * (a1 / 4294967296))) + ((IntKind.u64.wrap ((IntKind.u64.wrap ((a0 / 4294967296) * (Go.bits .and .u64 a1 4294967295))) + ((IntKind.u64.wrap ((Go.bits .and .u64 a0 4294967295) * (Go.bits .and .u64 a1 4294967295))) / 4294967296))) / 4294967296))) + ((IntKind.u64.wrap ((Go.bits .and .u64 (IntKind.u64.wrap ((IntKind.u64.wrap ((a0 / 4294967296) * (Go.bits .and .u64 a1 4294967295))) + ((IntKind.u64.wrap ((Go.bits .and .u64 a0 4294967295) * (Go.bits .and .u64 a1 4294967295))) / 4294967296))) 4294967295) + (IntKind.u64.wrap ((Go.bits .and .u64 a0 4294967295) * (a1 / 4294967296))))) / 4294967296)), IntKind.u64.wrap (a0 * a1))) = some (r1, r2) := h; clear h; simp only [Option.some.injEq, Prod.mk.injEq] at H; obtain ⟨rfl, rfl⟩ := H; go_enter Try.func32, Try.ntmps32; go_wp2; go_ret2; exact ⟨by first | rfl | (simp; done) | (simp [*]; done), by repeat (first | exact Drawn0.refl _ | apply Drawn0.step)⟩

/-! ### bits_Div64: function 33 -/
def bits_Div64.f (a0 : Int) (a1 : Int) (a2 : Int) : Option (Int × Int) := if a2 = 0 then (none) else (if a2 ≤ a0 then (none) else (if a0 = 0 then (some (IntKind.u64.wrap (Int.tdiv a1 a2), Int.tmod a1 a2)) else (none)))
set_option maxHeartbeats 8000000 in
set_option maxRecDepth 100000 in
theorem bits_Div64.calls (a0 : Int) (a1 : Int) (a2 : Int) (r1 : Int) (r2 : Int) (w : World) (h : bits_Div64.f a0 a1 a2 = some (r1, r2)) :
  Calls Try.prog 33 #[.int .u64 a0, .int .u64 a1, .int .u64 a2] w fun e w' => e = .returned (.tuple #[.int .u64 r1, .int .u64 r2]) ∧ Drawn0 w w' := by
 have H : (if a2 = 0 then (none) else (if a2 ≤ a0 then (none) else (if a0 = 0 then (some (IntKind.u64.wrap (Int.tdiv a1 a2), Int.tmod a1 a2)) else (none)))) = some (r1, r2) := h; clear h
 by_cases c4 : a2 = 0
 · rw [if_pos c4] at H; exact absurd H (by simp)
 rw [if_neg c4] at H; have c4b0 : (a2 == 0) = false := beq_eq_false_iff_ne.mpr c4; have c4b1 : (a2 != 0) = true := bne_iff_ne.mpr c4
 by_cases c5 : a2 ≤ a0
 · rw [if_pos c5] at H; exact absurd H (by simp)
 rw [if_neg c5] at H; have c5b0 : decide (a2 ≤ a0) = false := decide_eq_false c5; clear c5
 by_cases c6 : a0 = 0
 ·
  rw [if_pos c6] at H
  have c6b0 : (a0 == 0) = true := beq_iff_eq.mpr c6; have c6b1 : (a0 != 0) = false := bne_eq_false_iff_eq.mpr c6; clear c6; simp only [Option.some.injEq, Prod.mk.injEq] at H; obtain ⟨rfl, rfl⟩ := H; go_enter Try.func33, Try.ntmps33; go_wp2
  repeat (go_quiet (fail); try go_wp2)
  go_ret2; exact ⟨by first | rfl | (simp; done) | (simp [*]; done), by repeat (first | exact Drawn0.refl _ | apply Drawn0.step)⟩
 rw [if_neg c6] at H; exact absurd H (by simp)

/-! ### fan_between: function 27 -/
def fan_between.f (a0_0 : Int) (a0_1 : Int) (a1_0 : Int) (a1_1 : Int) (a2 : Int) : Option (Int × Int) := (bits_Mul64.f (IntKind.u64.wrap (wrap64 (a0_1 - a1_1))) (IntKind.u64.wrap (wrap64 (a2 - a0_0)))).bind fun bt162 => ((bits_Div64.f bt162.1 bt162.2 (IntKind.u64.wrap (wrap64 (a1_0 - a0_0)))).bind fun bt164 => (if bt164.2 > 0 then (some (wrap64 ((wrap64 (a0_1 - (wrap64 (bt164.1)))) - 1), wrap64 (a0_1 - (wrap64 (bt164.1))))) else (some (wrap64 (a0_1 - (wrap64 (bt164.1))), wrap64 (a0_1 - (wrap64 (bt164.1)))))))
set_option maxHeartbeats 8000000 in
set_option maxRecDepth 100000 in
theorem fan_between.calls (a0_0 : Int) (a0_1 : Int) (a1_0 : Int) (a1_1 : Int) (a2 : Int) (r1 : Int) (r2 : Int) (w : World) (h : fan_between.f a0_0 a0_1 a1_0 a1_1 a2 = some (r1, r2)) :
  Calls Try.prog 27 #[.agg #[.int .i64 a0_0, .int .i64 a0_1], .agg #[.int .i64 a1_0, .int .i64 a1_1], .int .i64 a2] w fun e w' => e = .returned (.agg #[.int .i64 r1, .int .i64 r2]) ∧ Below w.heap.size w w' := by
 have hu42 := Try.underlying42; have hu34 := Try.underlying34; have HB := am (Below.refl w.heap.size w); have H : ((bits_Mul64.f (IntKind.u64.wrap (wrap64 (a0_1 - a1_1))) (IntKind.u64.wrap (wrap64 (a2 - a0_0)))).bind fun bt162 => ((bits_Div64.f bt162.1 bt162.2 (IntKind.u64.wrap (wrap64 (a1_0 - a0_0)))).bind fun bt164 => (if bt164.2 > 0 then (some (wrap64 ((wrap64 (a0_1 - (wrap64 (bt164.1)))) - 1), wrap64 (a0_1 - (wrap64 (bt164.1))))) else (some (wrap64 (a0_1 - (wrap64 (bt164.1))), wrap64 (a0_1 - (wrap64 (bt164.1)))))))) = some (r1, r2) := h; clear h; replace H := Option.bind_eq_some_iff.mp H; obtain ⟨⟨t162, t163⟩, A40, H⟩ := H; replace H : ((bits_Div64.f t162 t163 (IntKind.u64.wrap (wrap64 (a1_0 - a0_0)))).bind fun bt164 => (if bt164.2 > 0 then (some (wrap64 ((wrap64 (a0_1 - (wrap64 (bt164.1)))) - 1), wrap64 (a0_1 - (wrap64 (bt164.1))))) else (some (wrap64 (a0_1 - (wrap64 (bt164.1))), wrap64 (a0_1 - (wrap64 (bt164.1))))))) = some (r1, r2) := H; have A4 := am A40; clear A40; replace H := Option.bind_eq_some_iff.mp H; obtain ⟨⟨t164, t165⟩, A50, H⟩ := H; replace H : (if t165 > 0 then (some (wrap64 ((wrap64 (a0_1 - (wrap64 (t164)))) - 1), wrap64 (a0_1 - (wrap64 (t164))))) else (some (wrap64 (a0_1 - (wrap64 (t164))), wrap64 (a0_1 - (wrap64 (t164)))))) = some (r1, r2) := H; have A5 := am A50; clear A50
 by_cases c6 : t165 > 0
 ·
  rw [if_pos c6] at H
  have c6b0 : decide (0 < t165) = true := decide_eq_true c6; clear c6; simp only [Option.some.injEq, Prod.mk.injEq] at H; obtain ⟨rfl, rfl⟩ := H; go_enter Try.func27, Try.ntmps27; go_wp2_with (first | ((with_reducible refine gate_dst (N := 3) rfl ?_); refine xbox 3 (cs := #[.int .i64 a0_0, .int .i64 a0_1]) (t := 42) ?_; intro gb159 hg w7 hbox hb; have n0_ := yb HB hb; have n1_ := am hbox; have n2_ := ys hg HB; have n3_ := ys hg HB; clear HB; have HB := n0_; have BK159 := n1_; have GW159 := n2_; have GE159 := n3_; clear n0_ n1_ n2_ n3_; clear hb hbox hg) | ((with_reducible refine gate_dst (N := 4) rfl ?_); refine xbox 4 (cs := #[.int .i64 a1_0, .int .i64 a1_1]) (t := 42) ?_; intro gb160 hg w8 hbox hb; have n0_ := yw BK159 hb; have n1_ := yb HB hb; have n2_ := am hbox; have n3_ := ys hg HB; have n4_ := ys hg HB; have n5_ := yl hg BK159; have n6_ := yg hg BK159; clear BK159; clear HB; have BK159 := n0_; have HB := n1_; have BK160 := n2_; have GW160 := n3_; have GE160 := n4_; have NB159_160 := n5_; have NB160_159 := n6_; clear n0_ n1_ n2_ n3_ n4_ n5_ n6_; clear hb hbox hg) | ((with_reducible refine gate_dst (N := 6) rfl ?_); refine xbox 6 (cs := #[.int .i64 0, .int .i64 0]) (t := 34) ?_; intro gb161 hg w9 hbox hb; have n0_ := yw BK159 hb; have n1_ := yw BK160 hb; have n2_ := yb HB hb; have n3_ := am hbox; have n4_ := ys hg HB; have n5_ := ys hg HB; have n6_ := yl hg BK159; have n7_ := yg hg BK159; have n8_ := yl hg BK160; have n9_ := yg hg BK160; clear BK159; clear BK160; clear HB; have BK159 := n0_; have BK160 := n1_; have HB := n2_; have BK161 := n3_; have GW161 := n4_; have GE161 := n5_; have NB159_161 := n6_; have NB161_159 := n7_; have NB160_161 := n8_; have NB161_160 := n9_; clear n0_ n1_ n2_ n3_ n4_ n5_ n6_ n7_ n8_ n9_; clear hb hbox hg; have hnb10 := NB159_160.out; have hnc10 := NB160_159.out; have hnb11 := NB159_161.out; have hnc11 := NB161_159.out; have hcz12_0 : w9.cell? ⟨gb159, 0, none⟩ = some (.int .i64 a0_0) := xz BK159 0; have hcz12_1 : w9.cell? ⟨gb159, 1, none⟩ = some (.int .i64 a0_1) := xz BK159 1; have hfz12_0 := blk_frozen BK159.out 0; have hfz12_1 := blk_frozen BK159.out 1; have hnb13 := NB160_161.out; have hnc13 := NB161_160.out; have hcz14_0 : w9.cell? ⟨gb160, 0, none⟩ = some (.int .i64 a1_0) := xz BK160 0; have hcz14_1 : w9.cell? ⟨gb160, 1, none⟩ = some (.int .i64 a1_1) := xz BK160 1; have hfz14_0 := blk_frozen BK160.out 0; have hfz14_1 := blk_frozen BK160.out 1) | ((with_reducible refine gate_callee (f := 32) rfl ?_); refine goesL_ (some 24) rfl rfl Try.func32 (by kernel_rfl) rfl #[.int .u64 (IntKind.u64.wrap (wrap64 (a0_1 - a1_1))), .int .u64 (IntKind.u64.wrap (wrap64 (a2 - a0_0)))] rfl xv ?_; (with_reducible refine (bits_Mul64.calls (IntKind.u64.wrap (wrap64 (a0_1 - a1_1))) (IntKind.u64.wrap (wrap64 (a2 - a0_0))) t162 t163 _ A4.out).mono ?_); rintro e w' ⟨rfl, ⟨nd, rfl⟩⟩; refine ⟨_, rfl, ?_⟩) | ((with_reducible refine gate_callee (f := 33) rfl ?_); refine goesL_ (some 36) rfl rfl Try.func33 (by kernel_rfl) rfl #[.int .u64 t162, .int .u64 t163, .int .u64 (IntKind.u64.wrap (wrap64 (a1_0 - a0_0)))] rfl xv ?_; (with_reducible refine (bits_Div64.calls t162 t163 (IntKind.u64.wrap (wrap64 (a1_0 - a0_0))) t164 t165 _ A5.out).mono ?_); rintro e w' ⟨rfl, ⟨nd, rfl⟩⟩; refine ⟨_, rfl, ?_⟩) | ((with_reducible refine gate_dst (N := 11) rfl ?_); refine xbox 11 (cs := #[.int .i64 0, .int .i64 0]) (t := 34) ?_; intro gb166 hg w15 hbox hb; have n0_ := yw BK159 hb; have n1_ := yw BK160 hb; have n2_ := yw BK161 hb; have n3_ := yb HB hb; have n4_ := am hbox; have n5_ := ys hg HB; have n6_ := ys hg HB; have n7_ := yl hg BK159; have n8_ := yg hg BK159; have n9_ := yl hg BK160; have n10_ := yg hg BK160; have n11_ := yl hg BK161; have n12_ := yg hg BK161; clear BK159; clear BK160; clear BK161; clear HB; have BK159 := n0_; have BK160 := n1_; have BK161 := n2_; have HB := n3_; have BK166 := n4_; have GW166 := n5_; have GE166 := n6_; have NB159_166 := n7_; have NB166_159 := n8_; have NB160_166 := n9_; have NB166_160 := n10_; have NB161_166 := n11_; have NB166_161 := n12_; clear n0_ n1_ n2_ n3_ n4_ n5_ n6_ n7_ n8_ n9_ n10_ n11_ n12_; clear hb hbox hg; have hnb16 := NB166_159.out; have hnc16 := NB159_166.out; have hnb17 := NB166_160.out; have hnc17 := NB160_166.out; have hnb18 := NB166_161.out; have hnc18 := NB161_166.out; have hcz19_0 : w15.cell? ⟨gb166, 0, none⟩ = some (.int .i64 0) := xz BK166 0; have hcz19_1 : w15.cell? ⟨gb166, 1, none⟩ = some (.int .i64 0) := xz BK166 1; have hfz19_0 := blk_frozen BK166.out 0; have hfz19_1 := blk_frozen BK166.out 1; have hcz20_0 : w15.cell? ⟨gb161, 0, none⟩ = some (.int .i64 0) := xz BK161 0; have hcz20_1 : w15.cell? ⟨gb161, 1, none⟩ = some (.int .i64 0) := xz BK161 1; have hfz20_0 := blk_frozen BK161.out 0; have hfz20_1 := blk_frozen BK161.out 1))
  refine bodyPost_ret (results_cell_row rfl _ _ gb161 34 #[.int .i64 (wrap64 ((wrap64 (a0_1 - (wrap64 (t164)))) - 1)), .int .i64 (wrap64 (a0_1 - (wrap64 (t164))))] (0, 0) _ rfl (by (with_reducible repeat (first | refine blk_drewN ?_ _ | refine blk_drew ?_ | refine blk_alloc ?_ _)); refine blk_put (cs := #[.int .i64 (wrap64 ((wrap64 (a0_1 - (wrap64 (t164)))) - 1)), .int .i64 0]) ?_ 1 _ rfl; (with_reducible repeat (first | refine blk_drewN ?_ _ | refine blk_drew ?_ | refine blk_alloc ?_ _)); refine blk_put (cs := #[.int .i64 0, .int .i64 0]) ?_ 0 _ rfl; (with_reducible repeat (first | refine blk_drewN ?_ _ | refine blk_drew ?_ | refine blk_alloc ?_ _)); refine blk_far ?_ NB161_166.out _; (with_reducible repeat (first | refine blk_drewN ?_ _ | refine blk_drew ?_ | refine blk_alloc ?_ _)); refine blk_far ?_ NB161_166.out _; (with_reducible repeat (first | refine blk_drewN ?_ _ | refine blk_drew ?_ | refine blk_alloc ?_ _)); refine blk_far ?_ NB161_166.out _; (with_reducible repeat (first | refine blk_drewN ?_ _ | refine blk_drew ?_ | refine blk_alloc ?_ _)); exact BK161.out) Try.underlying34 rfl (by kernel_rfl)) rfl ?_; exact ⟨by first | rfl | (simp [errW_none, errW_some] <;> rfl) | (simp [*, errW_none, errW_some] <;> rfl), xh HB⟩
 rw [if_neg c6] at H; have c6b0 : decide (0 < t165) = false := decide_eq_false c6; clear c6; simp only [Option.some.injEq, Prod.mk.injEq] at H; obtain ⟨rfl, rfl⟩ := H; go_enter Try.func27, Try.ntmps27; go_wp2_with (first | ((with_reducible refine gate_dst (N := 3) rfl ?_); refine xbox 3 (cs := #[.int .i64 a0_0, .int .i64 a0_1]) (t := 42) ?_; intro gb159 hg w21 hbox hb; have n0_ := yb HB hb; have n1_ := am hbox; have n2_ := ys hg HB; have n3_ := ys hg HB; clear HB; have HB := n0_; have BK159 := n1_; have GW159 := n2_; have GE159 := n3_; clear n0_ n1_ n2_ n3_; clear hb hbox hg) | ((with_reducible refine gate_dst (N := 4) rfl ?_); refine xbox 4 (cs := #[.int .i64 a1_0, .int .i64 a1_1]) (t := 42) ?_; intro gb160 hg w22 hbox hb; have n0_ := yw BK159 hb; have n1_ := yb HB hb; have n2_ := am hbox; have n3_ := ys hg HB; have n4_ := ys hg HB; have n5_ := yl hg BK159; have n6_ := yg hg BK159; clear BK159; clear HB; have BK159 := n0_; have HB := n1_; have BK160 := n2_; have GW160 := n3_; have GE160 := n4_; have NB159_160 := n5_; have NB160_159 := n6_; clear n0_ n1_ n2_ n3_ n4_ n5_ n6_; clear hb hbox hg) | ((with_reducible refine gate_dst (N := 6) rfl ?_); refine xbox 6 (cs := #[.int .i64 0, .int .i64 0]) (t := 34) ?_; intro gb161 hg w23 hbox hb; have n0_ := yw BK159 hb; have n1_ := yw BK160 hb; have n2_ := yb HB hb; have n3_ := am hbox; have n4_ := ys hg HB; have n5_ := ys hg HB; have n6_ := yl hg BK159; have n7_ := yg hg BK159; have n8_ := yl hg BK160; have n9_ := yg hg BK160; clear BK159; clear BK160; clear HB; have BK159 := n0_; have BK160 := n1_; have HB := n2_; have BK161 := n3_; have GW161 := n4_; have GE161 := n5_; have NB159_161 := n6_; have NB161_159 := n7_; have NB160_161 := n8_; have NB161_160 := n9_; clear n0_ n1_ n2_ n3_ n4_ n5_ n6_ n7_ n8_ n9_; clear hb hbox hg; have hnb24 := NB159_160.out; have hnc24 := NB160_159.out; have hnb25 := NB159_161.out; have hnc25 := NB161_159.out; have hcz26_0 : w23.cell? ⟨gb159, 0, none⟩ = some (.int .i64 a0_0) := xz BK159 0; have hcz26_1 : w23.cell? ⟨gb159, 1, none⟩ = some (.int .i64 a0_1) := xz BK159 1; have hfz26_0 := blk_frozen BK159.out 0; have hfz26_1 := blk_frozen BK159.out 1; have hnb27 := NB160_161.out; have hnc27 := NB161_160.out; have hcz28_0 : w23.cell? ⟨gb160, 0, none⟩ = some (.int .i64 a1_0) := xz BK160 0; have hcz28_1 : w23.cell? ⟨gb160, 1, none⟩ = some (.int .i64 a1_1) := xz BK160 1; have hfz28_0 := blk_frozen BK160.out 0; have hfz28_1 := blk_frozen BK160.out 1) | ((with_reducible refine gate_callee (f := 32) rfl ?_); refine goesL_ (some 24) rfl rfl Try.func32 (by kernel_rfl) rfl #[.int .u64 (IntKind.u64.wrap (wrap64 (a0_1 - a1_1))), .int .u64 (IntKind.u64.wrap (wrap64 (a2 - a0_0)))] rfl xv ?_; (with_reducible refine (bits_Mul64.calls (IntKind.u64.wrap (wrap64 (a0_1 - a1_1))) (IntKind.u64.wrap (wrap64 (a2 - a0_0))) t162 t163 _ A4.out).mono ?_); rintro e w' ⟨rfl, ⟨nd, rfl⟩⟩; refine ⟨_, rfl, ?_⟩) | ((with_reducible refine gate_callee (f := 33) rfl ?_); refine goesL_ (some 36) rfl rfl Try.func33 (by kernel_rfl) rfl #[.int .u64 t162, .int .u64 t163, .int .u64 (IntKind.u64.wrap (wrap64 (a1_0 - a0_0)))] rfl xv ?_; (with_reducible refine (bits_Div64.calls t162 t163 (IntKind.u64.wrap (wrap64 (a1_0 - a0_0))) t164 t165 _ A5.out).mono ?_); rintro e w' ⟨rfl, ⟨nd, rfl⟩⟩; refine ⟨_, rfl, ?_⟩) | ((with_reducible refine gate_dst (N := 11) rfl ?_); refine xbox 11 (cs := #[.int .i64 0, .int .i64 0]) (t := 34) ?_; intro gb166 hg w29 hbox hb; have n0_ := yw BK159 hb; have n1_ := yw BK160 hb; have n2_ := yw BK161 hb; have n3_ := yb HB hb; have n4_ := am hbox; have n5_ := ys hg HB; have n6_ := ys hg HB; have n7_ := yl hg BK159; have n8_ := yg hg BK159; have n9_ := yl hg BK160; have n10_ := yg hg BK160; have n11_ := yl hg BK161; have n12_ := yg hg BK161; clear BK159; clear BK160; clear BK161; clear HB; have BK159 := n0_; have BK160 := n1_; have BK161 := n2_; have HB := n3_; have BK166 := n4_; have GW166 := n5_; have GE166 := n6_; have NB159_166 := n7_; have NB166_159 := n8_; have NB160_166 := n9_; have NB166_160 := n10_; have NB161_166 := n11_; have NB166_161 := n12_; clear n0_ n1_ n2_ n3_ n4_ n5_ n6_ n7_ n8_ n9_ n10_ n11_ n12_; clear hb hbox hg; have hnb30 := NB166_159.out; have hnc30 := NB159_166.out; have hnb31 := NB166_160.out; have hnc31 := NB160_166.out; have hnb32 := NB166_161.out; have hnc32 := NB161_166.out; have hcz33_0 : w29.cell? ⟨gb166, 0, none⟩ = some (.int .i64 0) := xz BK166 0; have hcz33_1 : w29.cell? ⟨gb166, 1, none⟩ = some (.int .i64 0) := xz BK166 1; have hfz33_0 := blk_frozen BK166.out 0; have hfz33_1 := blk_frozen BK166.out 1; have hcz34_0 : w29.cell? ⟨gb161, 0, none⟩ = some (.int .i64 0) := xz BK161 0; have hcz34_1 : w29.cell? ⟨gb161, 1, none⟩ = some (.int .i64 0) := xz BK161 1; have hfz34_0 := blk_frozen BK161.out 0; have hfz34_1 := blk_frozen BK161.out 1))
 refine bodyPost_ret (results_cell_row rfl _ _ gb161 34 #[.int .i64 (wrap64 (a0_1 - (wrap64 (t164)))), .int .i64 (wrap64 (a0_1 - (wrap64 (t164))))] (0, 0) _ rfl (by (with_reducible repeat (first | refine blk_drewN ?_ _ | refine blk_drew ?_ | refine blk_alloc ?_ _)); refine blk_put (cs := #[.int .i64 (wrap64 (a0_1 - (wrap64 (t164)))), .int .i64 0]) ?_ 1 _ rfl; (with_reducible repeat (first | refine blk_drewN ?_ _ | refine blk_drew ?_ | refine blk_alloc ?_ _)); refine blk_put (cs := #[.int .i64 0, .int .i64 0]) ?_ 0 _ rfl; (with_reducible repeat (first | refine blk_drewN ?_ _ | refine blk_drew ?_ | refine blk_alloc ?_ _)); refine blk_far ?_ NB161_166.out _; (with_reducible repeat (first | refine blk_drewN ?_ _ | refine blk_drew ?_ | refine blk_alloc ?_ _)); refine blk_far ?_ NB161_166.out _; (with_reducible repeat (first | refine blk_drewN ?_ _ | refine blk_drew ?_ | refine blk_alloc ?_ _)); exact BK161.out) Try.underlying34 rfl (by kernel_rfl)) rfl ?_; exact ⟨by first | rfl | (simp [errW_none, errW_some] <;> rfl) | (simp [*, errW_none, errW_some] <;> rfl), xh HB⟩

end Go.Proofs.Ytbiempkdfnfpgaa.PA
