-- written by a program of this session, a changed copy of the kit print
import Derived.Test.YtbiempkdfnfpgaaPAx0
import Derived.Test.YtbiempkdfnfpgaaQ
namespace Go.Proofs.Ytbiempkdfnfpgaa.PA
open Go.RowKit Go.Proofs.YtbiempkdfnfpgaaW.PrintWords Go.Proofs.YtbiempkdfnfpgaaW.PrintLast Go.Proofs.YtbiempkdfnfpgaaW.PrintMore Go.Proofs.Ytbiempkdfnfpgaa.Q
attribute [local go_sem] Instr.field asAgg part isAgg max2_int min2_int max_two min_two max_three min_three max_four min_four   -- for this text's walks alone
set_option linter.unusedVariables false
set_option linter.unusedSimpArgs false

/-! ### fan_Check: function 10 -/
mutual
def fan_Check.j0 : Nat → Bool → Int → Bool → Bool → List (S42) → Option (Int)
 | 0, _, _, _, _, _ => none
 | k + 1, x17, x150000, x150001, x150002, x150003 => if x17 = true then (some 2) else (fan_Check.l0 k x150003 (x150003.length : Int) 0 x150000 x150001 x150002 x150003)
def fan_Check.l0 : Nat → List (S42) → Int → Int → Int → Bool → Bool → List (S42) → Option (Int)
 | 0, _, _, _, _, _, _, _ => none
 | k + 1, x19, x20, x21, x150000, x150001, x150002, x150003 => if x21 < x20 then (if 0 ≤ x21 then (if x21 < (x19.length : Int) then (if ((rd_T42 x19 x21).f0) < (-1048576) then (fan_Check.j2 k x21 x19 x20 x21 true x150000 x150001 x150002 x150003 ((rd_T42 x19 x21).f0) ((rd_T42 x19 x21).f1)) else (if ((rd_T42 x19 x21).f0) > 1048576 then (fan_Check.j2 k x21 x19 x20 x21 true x150000 x150001 x150002 x150003 ((rd_T42 x19 x21).f0) ((rd_T42 x19 x21).f1)) else (if ((rd_T42 x19 x21).f1) < 0 then (fan_Check.j2 k x21 x19 x20 x21 true x150000 x150001 x150002 x150003 ((rd_T42 x19 x21).f0) ((rd_T42 x19 x21).f1)) else (fan_Check.j2 k x21 x19 x20 x21 (decide (((rd_T42 x19 x21).f1) > 2199023255552)) x150000 x150001 x150002 x150003 ((rd_T42 x19 x21).f0) ((rd_T42 x19 x21).f1))))) else (none)) else (none)) else (some 0)
def fan_Check.j2 : Nat → Int → List (S42) → Int → Int → Bool → Int → Bool → Bool → List (S42) → Int → Int → Option (Int)
 | 0, _, _, _, _, _, _, _, _, _, _, _ => none
 | k + 1, x3, x19, x20, x21, x43, x150000, x150001, x150002, x150003, x152000, x152001 => if x43 = true then (some 1) else (if x3 > 0 then (if 0 ≤ (wrap64 (x3 - 1)) then (if (wrap64 (x3 - 1)) < (x150003.length : Int) then (if x152000 ≤ ((rd_T42 x150003 (wrap64 (x3 - 1))).f0) then (some 14) else (if x152001 > ((rd_T42 x150003 (wrap64 (x3 - 1))).f1) then (some 14) else (fan_Check.l0 k x19 x20 (wrap64 (x21 + 1)) x150000 x150001 x150002 x150003))) else (none)) else (none)) else (fan_Check.l0 k x19 x20 (wrap64 (x21 + 1)) x150000 x150001 x150002 x150003))
end
def fan_Check.f (k : Nat) (a0_0 : Int) (a0_1 : Bool) (a0_2 : Bool) (l0_3 : List (S42)) : Option (Int) := if a0_0 < 0 then (some 4) else (if (l0_3.length : Int) < 1 then (fan_Check.j0 k true a0_0 a0_1 a0_2 l0_3) else (fan_Check.j0 k (decide ((l0_3.length : Int) > 8)) a0_0 a0_1 a0_2 l0_3))
theorem fan_Check.mono_l : ∀ k, (∀ y0 y1 y2 y3 y4, LeO (fan_Check.j0 k y0 y1 y2 y3 y4) (fan_Check.j0 (k + 1) y0 y1 y2 y3 y4)) ∧ (∀ y0 y1 y2 y3 y4 y5 y6, LeO (fan_Check.l0 k y0 y1 y2 y3 y4 y5 y6) (fan_Check.l0 (k + 1) y0 y1 y2 y3 y4 y5 y6)) ∧ (∀ y0 y1 y2 y3 y4 y5 y6 y7 y8 y9 y10, LeO (fan_Check.j2 k y0 y1 y2 y3 y4 y5 y6 y7 y8 y9 y10) (fan_Check.j2 (k + 1) y0 y1 y2 y3 y4 y5 y6 y7 y8 y9 y10))
 | 0 => ⟨fun _ _ _ _ _ r h => by simp [fan_Check.j0] at h, fun _ _ _ _ _ _ _ r h => by simp [fan_Check.l0] at h, fun _ _ _ _ _ _ _ _ _ _ _ r h => by simp [fan_Check.j2] at h⟩
 | k + 1 => by
  obtain ⟨ih0, ih1, ih2⟩ := fan_Check.mono_l k
  refine ⟨?_, ?_, ?_⟩
  ·
   intro y0 y1 y2 y3 y4
   unfold fan_Check.j0
   repeat' first
   | (with_reducible exact ih0 _ _ _ _ _)
   | (with_reducible exact ih1 _ _ _ _ _ _ _)
   | (with_reducible exact ih2 _ _ _ _ _ _ _ _ _ _ _)
   | (with_reducible exact LeO.refl _)
   | (with_reducible exact LeO.none _)
   | (with_reducible refine LeO.ite ?_ ?_)
   | (with_reducible refine LeO.bind ?_ (fun _ => ?_))
   | exact ih0 _ _ _ _ _
   | exact ih1 _ _ _ _ _ _ _
   | exact ih2 _ _ _ _ _ _ _ _ _ _ _
   | exact LeO.none _
   | refine LeO.ite ?_ ?_
   | refine LeO.bind ?_ (fun _ => ?_)
  ·
   intro y0 y1 y2 y3 y4 y5 y6
   unfold fan_Check.l0
   repeat' first
   | (with_reducible exact ih0 _ _ _ _ _)
   | (with_reducible exact ih1 _ _ _ _ _ _ _)
   | (with_reducible exact ih2 _ _ _ _ _ _ _ _ _ _ _)
   | (with_reducible exact LeO.refl _)
   | (with_reducible exact LeO.none _)
   | (with_reducible refine LeO.ite ?_ ?_)
   | (with_reducible refine LeO.bind ?_ (fun _ => ?_))
   | exact ih0 _ _ _ _ _
   | exact ih1 _ _ _ _ _ _ _
   | exact ih2 _ _ _ _ _ _ _ _ _ _ _
   | exact LeO.none _
   | refine LeO.ite ?_ ?_
   | refine LeO.bind ?_ (fun _ => ?_)
  intro y0 y1 y2 y3 y4 y5 y6 y7 y8 y9 y10
  unfold fan_Check.j2
  repeat' first
  | (with_reducible exact ih0 _ _ _ _ _)
  | (with_reducible exact ih1 _ _ _ _ _ _ _)
  | (with_reducible exact ih2 _ _ _ _ _ _ _ _ _ _ _)
  | (with_reducible exact LeO.refl _)
  | (with_reducible exact LeO.none _)
  | (with_reducible refine LeO.ite ?_ ?_)
  | (with_reducible refine LeO.bind ?_ (fun _ => ?_))
  | exact ih0 _ _ _ _ _
  | exact ih1 _ _ _ _ _ _ _
  | exact ih2 _ _ _ _ _ _ _ _ _ _ _
  | exact LeO.none _
  | refine LeO.ite ?_ ?_
  | refine LeO.bind ?_ (fun _ => ?_)
theorem fan_Check.mono : ∀ a0 a1 a2 a3 k, LeO (fan_Check.f k a0 a1 a2 a3) (fan_Check.f (k + 1) a0 a1 a2 a3) := by
 intro a0 a1 a2 a3 k; obtain ⟨ih0, ih1, ih2⟩ := fan_Check.mono_l k; unfold fan_Check.f
 repeat' first
   | (with_reducible exact ih0 _ _ _ _ _)
   | (with_reducible exact ih1 _ _ _ _ _ _ _)
   | (with_reducible exact ih2 _ _ _ _ _ _ _ _ _ _ _)
   | (with_reducible exact LeO.refl _)
   | (with_reducible exact LeO.none _)
   | (with_reducible refine LeO.ite ?_ ?_)
   | (with_reducible refine LeO.bind ?_ (fun _ => ?_))
   | exact ih0 _ _ _ _ _
   | exact ih1 _ _ _ _ _ _ _
   | exact ih2 _ _ _ _ _ _ _ _ _ _ _
   | exact LeO.none _
   | refine LeO.ite ?_ ?_
   | refine LeO.bind ?_ (fun _ => ?_)
set_option maxHeartbeats 8000000 in
set_option maxRecDepth 100000 in
theorem fan_Check.calls (k : Nat) (a0_0 : Int) (a0_1 : Bool) (a0_2 : Bool) (A0_3 : Option Addr) (c0_3 : Nat) (l0_3 : List (S42)) (r : Int) (w : World) (hr0_3 : Kd.C k42 w A0_3 l0_3.length l0_3) (hc0_3 : l0_3.length ≤ c0_3) (h : fan_Check.f k a0_0 a0_1 a0_2 l0_3 = some r) :
  Calls Try.prog 10 #[.agg #[.int .i64 a0_0, .bool a0_1, .bool a0_2, .slice A0_3 l0_3.length c0_3]] w fun e w' => e = .returned (.int .i64 r) ∧ Below w.heap.size w w' := by
 have hu25 := Try.underlying25; have hu42 := Try.underlying42; have HR0_3 := am hr0_3; have HC0_3 := am hc0_3; clear hr0_3 hc0_3; have HB := am (Below.refl w.heap.size w); have H : (if a0_0 < 0 then (some 4) else (if (l0_3.length : Int) < 1 then (fan_Check.j0 k true a0_0 a0_1 a0_2 l0_3) else (fan_Check.j0 k (decide ((l0_3.length : Int) > 8)) a0_0 a0_1 a0_2 l0_3))) = some r := h; clear h
 by_cases c2 : a0_0 < 0
 ·
  rw [if_pos c2] at H
  have c2b0 : decide (a0_0 < 0) = true := decide_eq_true c2; clear c2; obtain rfl := Option.some.inj H; go_enter Try.func10, Try.ntmps10; go_wp2_with (first | ((with_reducible refine gate_dst (N := 1) rfl ?_); (try (refine gate_guard (by rfl) ?_; dsimp only)); refine xbox 1 (cs := #[.int .i64 a0_0, .bool a0_1, .bool a0_2, .slice A0_3 l0_3.length c0_3]) (t := 25) ?_; intro gb149 hg w3 hbox hb; have n0_ := yb HB hb; have n1_ := am hbox; have n2_ := ys hg HB; have n3_ := ys hg HB; clear HB; have HB := n0_; have BK149 := n1_; have GW149 := n2_; have GE149 := n3_; clear n0_ n1_ n2_ n3_; clear hb hbox hg; have hcz4_0 : w3.cell? ⟨gb149, 0, none⟩ = some (.int .i64 a0_0) := xz BK149 0; have hcz4_1 : w3.cell? ⟨gb149, 1, none⟩ = some (.bool a0_1) := xz BK149 1; have hcz4_2 : w3.cell? ⟨gb149, 2, none⟩ = some (.bool a0_2) := xz BK149 2; have hcz4_3 : w3.cell? ⟨gb149, 3, none⟩ = some (.slice A0_3 l0_3.length c0_3) := xz BK149 3; have hfz4_0 := blk_frozen BK149.out 0; have hfz4_1 := blk_frozen BK149.out 1; have hfz4_2 := blk_frozen BK149.out 2; have hfz4_3 := blk_frozen BK149.out 3))
  repeat (go_quiet (first | ((with_reducible refine gate_dst (N := 1) rfl ?_); (try (refine gate_guard (by rfl) ?_; dsimp only)); refine xbox 1 (cs := #[.int .i64 a0_0, .bool a0_1, .bool a0_2, .slice A0_3 l0_3.length c0_3]) (t := 25) ?_; intro gb149 hg w3 hbox hb; have n0_ := yb HB hb; have n1_ := am hbox; have n2_ := ys hg HB; have n3_ := ys hg HB; clear HB; have HB := n0_; have BK149 := n1_; have GW149 := n2_; have GE149 := n3_; clear n0_ n1_ n2_ n3_; clear hb hbox hg; have hcz4_0 : w3.cell? ⟨gb149, 0, none⟩ = some (.int .i64 a0_0) := xz BK149 0; have hcz4_1 : w3.cell? ⟨gb149, 1, none⟩ = some (.bool a0_1) := xz BK149 1; have hcz4_2 : w3.cell? ⟨gb149, 2, none⟩ = some (.bool a0_2) := xz BK149 2; have hcz4_3 : w3.cell? ⟨gb149, 3, none⟩ = some (.slice A0_3 l0_3.length c0_3) := xz BK149 3; have hfz4_0 := blk_frozen BK149.out 0; have hfz4_1 := blk_frozen BK149.out 1; have hfz4_2 := blk_frozen BK149.out 2; have hfz4_3 := blk_frozen BK149.out 3)); try go_wp2_with (first | ((with_reducible refine gate_dst (N := 1) rfl ?_); (try (refine gate_guard (by rfl) ?_; dsimp only)); refine xbox 1 (cs := #[.int .i64 a0_0, .bool a0_1, .bool a0_2, .slice A0_3 l0_3.length c0_3]) (t := 25) ?_; intro gb149 hg w3 hbox hb; have n0_ := yb HB hb; have n1_ := am hbox; have n2_ := ys hg HB; have n3_ := ys hg HB; clear HB; have HB := n0_; have BK149 := n1_; have GW149 := n2_; have GE149 := n3_; clear n0_ n1_ n2_ n3_; clear hb hbox hg; have hcz4_0 : w3.cell? ⟨gb149, 0, none⟩ = some (.int .i64 a0_0) := xz BK149 0; have hcz4_1 : w3.cell? ⟨gb149, 1, none⟩ = some (.bool a0_1) := xz BK149 1; have hcz4_2 : w3.cell? ⟨gb149, 2, none⟩ = some (.bool a0_2) := xz BK149 2; have hcz4_3 : w3.cell? ⟨gb149, 3, none⟩ = some (.slice A0_3 l0_3.length c0_3) := xz BK149 3; have hfz4_0 := blk_frozen BK149.out 0; have hfz4_1 := blk_frozen BK149.out 1; have hfz4_2 := blk_frozen BK149.out 2; have hfz4_3 := blk_frozen BK149.out 3)))
  go_ret; exact ⟨by first | rfl | (simp [errW_none, errW_some] <;> rfl) | (simp [*, errW_none, errW_some] <;> rfl), xh HB⟩
 rw [if_neg c2] at H; have c2b0 : decide (a0_0 < 0) = false := decide_eq_false c2; clear c2; have HC5 := am H; clear H; go_enter Try.func10, Try.ntmps10; go_upto_region 3 with (first | ((with_reducible refine gate_dst (N := 1) rfl ?_); (try (refine gate_guard (by rfl) ?_; dsimp only)); refine xbox 1 (cs := #[.int .i64 a0_0, .bool a0_1, .bool a0_2, .slice A0_3 l0_3.length c0_3]) (t := 25) ?_; intro gb149 hg w6 hbox hb; have n0_ := yb HB hb; have n1_ := am hbox; have n2_ := ys hg HB; have n3_ := ys hg HB; clear HB; have HB := n0_; have BK149 := n1_; have GW149 := n2_; have GE149 := n3_; clear n0_ n1_ n2_ n3_; clear hb hbox hg; have hcz7_0 : w6.cell? ⟨gb149, 0, none⟩ = some (.int .i64 a0_0) := xz BK149 0; have hcz7_1 : w6.cell? ⟨gb149, 1, none⟩ = some (.bool a0_1) := xz BK149 1; have hcz7_2 : w6.cell? ⟨gb149, 2, none⟩ = some (.bool a0_2) := xz BK149 2; have hcz7_3 : w6.cell? ⟨gb149, 3, none⟩ = some (.slice A0_3 l0_3.length c0_3) := xz BK149 3; have hfz7_0 := blk_frozen BK149.out 0; have hfz7_1 := blk_frozen BK149.out 1; have hfz7_2 := blk_frozen BK149.out 2; have hfz7_3 := blk_frozen BK149.out 3))
 repeat (go_quiet (first | ((with_reducible refine gate_dst (N := 1) rfl ?_); (try (refine gate_guard (by rfl) ?_; dsimp only)); refine xbox 1 (cs := #[.int .i64 a0_0, .bool a0_1, .bool a0_2, .slice A0_3 l0_3.length c0_3]) (t := 25) ?_; intro gb149 hg w6 hbox hb; have n0_ := yb HB hb; have n1_ := am hbox; have n2_ := ys hg HB; have n3_ := ys hg HB; clear HB; have HB := n0_; have BK149 := n1_; have GW149 := n2_; have GE149 := n3_; clear n0_ n1_ n2_ n3_; clear hb hbox hg; have hcz7_0 : w6.cell? ⟨gb149, 0, none⟩ = some (.int .i64 a0_0) := xz BK149 0; have hcz7_1 : w6.cell? ⟨gb149, 1, none⟩ = some (.bool a0_1) := xz BK149 1; have hcz7_2 : w6.cell? ⟨gb149, 2, none⟩ = some (.bool a0_2) := xz BK149 2; have hcz7_3 : w6.cell? ⟨gb149, 3, none⟩ = some (.slice A0_3 l0_3.length c0_3) := xz BK149 3; have hfz7_0 := blk_frozen BK149.out 0; have hfz7_1 := blk_frozen BK149.out 1; have hfz7_2 := blk_frozen BK149.out 2; have hfz7_3 := blk_frozen BK149.out 3)); go_upto_region 3 with (first | ((with_reducible refine gate_dst (N := 1) rfl ?_); (try (refine gate_guard (by rfl) ?_; dsimp only)); refine xbox 1 (cs := #[.int .i64 a0_0, .bool a0_1, .bool a0_2, .slice A0_3 l0_3.length c0_3]) (t := 25) ?_; intro gb149 hg w6 hbox hb; have n0_ := yb HB hb; have n1_ := am hbox; have n2_ := ys hg HB; have n3_ := ys hg HB; clear HB; have HB := n0_; have BK149 := n1_; have GW149 := n2_; have GE149 := n3_; clear n0_ n1_ n2_ n3_; clear hb hbox hg; have hcz7_0 : w6.cell? ⟨gb149, 0, none⟩ = some (.int .i64 a0_0) := xz BK149 0; have hcz7_1 : w6.cell? ⟨gb149, 1, none⟩ = some (.bool a0_1) := xz BK149 1; have hcz7_2 : w6.cell? ⟨gb149, 2, none⟩ = some (.bool a0_2) := xz BK149 2; have hcz7_3 : w6.cell? ⟨gb149, 3, none⟩ = some (.slice A0_3 l0_3.length c0_3) := xz BK149 3; have hfz7_0 := blk_frozen BK149.out 0; have hfz7_1 := blk_frozen BK149.out 1; have hfz7_2 := blk_frozen BK149.out 2; have hfz7_3 := blk_frozen BK149.out 3)))
 (try simp only [Act.put, List.setIfInBounds_toArray, List.set_cons_zero, List.set_cons_succ]); go_cut [17] (fun v17 wc => ∃ (kq : Nat) (x17_4 : Bool), v17 = .bool x17_4 ∧ Aside0 (fan_Check.j0 kq x17_4 a0_0 a0_1 a0_2 l0_3 = some r) ∧ Aside0 (kq ≤ k) ∧ Aside0 (wc.heap[gb149]? = some (.cells #[.int .i64 a0_0, .bool a0_1, .bool a0_2, (.slice A0_3 l0_3.length c0_3)] 25 (0, 0))) ∧ Aside0 (Below w.heap.size w wc))
 case first =>
  have H := HC5.out; clear HC5
  by_cases c8 : (l0_3.length : Int) < 1
  ·
   rw [if_pos c8] at H
   have c8b0 : decide ((l0_3.length : Int) < 1) = true := decide_eq_true c8; have c8b1 : decide (l0_3.length < 1) = true := decide_eq_true (by omega); clear c8; (first | rw [c8b0] | (simp only [i64_w, i32_w]; rw [c8b0]) | skip); have H' := am H; clear H; have hcz9_0 : w6.cell? ⟨gb149, 0, none⟩ = some (.int .i64 a0_0) := xz BK149 0; have hcz9_1 : w6.cell? ⟨gb149, 1, none⟩ = some (.bool a0_1) := xz BK149 1; have hcz9_2 : w6.cell? ⟨gb149, 2, none⟩ = some (.bool a0_2) := xz BK149 2; have hcz9_3 : w6.cell? ⟨gb149, 3, none⟩ = some (.slice A0_3 l0_3.length c0_3) := xz BK149 3; have hfz9_0 := blk_frozen BK149.out 0; have hfz9_1 := blk_frozen BK149.out 1; have hfz9_2 := blk_frozen BK149.out 2; have hfz9_3 := blk_frozen BK149.out 3; go_wp2
   repeat (go_quiet (fail); try go_wp2)
   go_meet
   case rel => exact ⟨_, (true), xr, H', ⟨by first | omega | exact Nat.le_refl _⟩, ⟨xb BK149⟩, ⟨xh HB⟩⟩
  rw [if_neg c8] at H; have c8b0 : decide ((l0_3.length : Int) < 1) = false := decide_eq_false c8; have c8b1 : decide (l0_3.length < 1) = false := decide_eq_false (by omega); clear c8; (first | rw [c8b0] | (simp only [i64_w, i32_w]; rw [c8b0]) | skip); have H' := am H; clear H; have hcz10_0 : w6.cell? ⟨gb149, 0, none⟩ = some (.int .i64 a0_0) := xz BK149 0; have hcz10_1 : w6.cell? ⟨gb149, 1, none⟩ = some (.bool a0_1) := xz BK149 1; have hcz10_2 : w6.cell? ⟨gb149, 2, none⟩ = some (.bool a0_2) := xz BK149 2; have hcz10_3 : w6.cell? ⟨gb149, 3, none⟩ = some (.slice A0_3 l0_3.length c0_3) := xz BK149 3; have hfz10_0 := blk_frozen BK149.out 0; have hfz10_1 := blk_frozen BK149.out 1; have hfz10_2 := blk_frozen BK149.out 2; have hfz10_3 := blk_frozen BK149.out 3; go_wp2
  repeat (go_quiet (fail); try go_wp2)
  go_meet
  case rel => exact ⟨_, (decide ((l0_3.length : Int) > 8)), xr, H', ⟨by first | omega | exact Nat.le_refl _⟩, ⟨xb BK149⟩, ⟨xh HB⟩⟩
 case rest =>
  clear HC5
  try clear c1
  try clear c2
  try clear c2b0
  try clear p2
  try clear c8
  try clear c8b0
  try clear c8b1
  try clear c10
  try clear hcz10_0
  try clear hcz10_1
  try clear hcz10_2
  try clear hcz10_3
  try clear hcz4_0
  try clear hcz4_1
  try clear hcz4_2
  try clear hcz4_3
  try clear hcz7_0
  try clear hcz7_1
  try clear hcz7_2
  try clear hcz7_3
  try clear hcz9_0
  try clear hcz9_1
  try clear hcz9_2
  try clear hcz9_3
  try clear hfz10_0
  try clear hfz10_1
  try clear hfz10_2
  try clear hfz10_3
  try clear hfz4_0
  try clear hfz4_1
  try clear hfz4_2
  try clear hfz4_3
  try clear hfz7_0
  try clear hfz7_1
  try clear hfz7_2
  try clear hfz7_3
  try clear hfz9_0
  try clear hfz9_1
  try clear hfz9_2
  try clear hfz9_3
  obtain ⟨kq, x17_4, rfl, HA, HJ4, BK149, HB⟩ := hcut
  cases kq with
  | zero => exact absurd HA.out (by simp [fan_Check.j0])
  | succ kj4 =>
   have H := HA.out; clear HA; simp only [fan_Check.j0] at H
   by_cases c11 : x17_4 = true
   ·
    subst c11
    (have H1 : (some 2) = some r := by rw [if_pos rfl] at H; exact H); clear H; have H := H1; clear H1; obtain rfl := Option.some.inj H; go_wp2
    repeat (go_quiet (fail); try go_wp2)
    go_ret; exact ⟨by first | rfl | (simp [errW_none, errW_some] <;> rfl) | (simp [*, errW_none, errW_some] <;> rfl), xh HB⟩
   replace c11 := Bool.eq_false_iff.mpr c11; subst c11; (have H1 : (fan_Check.l0 kj4 l0_3 (l0_3.length : Int) 0 a0_0 a0_1 a0_2 l0_3) = some r := by rw [if_neg (show ¬ (false = true) by decide)] at H; exact H); clear H; have H := H1; clear H1; have H' := am H; clear H; have hcz12_0 : wc.cell? ⟨gb149, 0, none⟩ = some (.int .i64 a0_0) := xz BK149 0; have hcz12_1 : wc.cell? ⟨gb149, 1, none⟩ = some (.bool a0_1) := xz BK149 1; have hcz12_2 : wc.cell? ⟨gb149, 2, none⟩ = some (.bool a0_2) := xz BK149 2; have hcz12_3 : wc.cell? ⟨gb149, 3, none⟩ = some (.slice A0_3 l0_3.length c0_3) := xz BK149 3; have hfz12_0 := blk_frozen BK149.out 0; have hfz12_1 := blk_frozen BK149.out 1; have hfz12_2 := blk_frozen BK149.out 2; have hfz12_3 := blk_frozen BK149.out 3; go_wp2
   repeat (go_quiet (fail); try go_wp2)
   go_loopg [21] kj4 (fun kq v21 w' => ∃ (x21_2 : Int), v21 = .int .i64 x21_2 ∧ Aside0 (fan_Check.l0 kq l0_3 (l0_3.length : Int) x21_2 a0_0 a0_1 a0_2 l0_3 = some r) ∧ Aside0 (kq ≤ kj4) ∧ Aside0 (w'.heap[gb149]? = some (.cells #[.int .i64 a0_0, .bool a0_1, .bool a0_2, (.slice A0_3 l0_3.length c0_3)] 25 (0, 0))) ∧ Aside0 (Below w.heap.size w w'))
   case atStart => exact ⟨(0), xr, H', ⟨Nat.le_refl _⟩, ⟨xb BK149⟩, ⟨xh HB⟩⟩
   case round =>
    clear H'
    try clear c1
    try clear c2
    try clear c2b0
    try clear p2
    try clear c8
    try clear c8b0
    try clear c8b1
    try clear c10
    try clear c11
    try clear hcz10_0
    try clear hcz10_1
    try clear hcz10_2
    try clear hcz10_3
    try clear hcz12_0
    try clear hcz12_1
    try clear hcz12_2
    try clear hcz12_3
    try clear hcz4_0
    try clear hcz4_1
    try clear hcz4_2
    try clear hcz4_3
    try clear hcz7_0
    try clear hcz7_1
    try clear hcz7_2
    try clear hcz7_3
    try clear hcz9_0
    try clear hcz9_1
    try clear hcz9_2
    try clear hcz9_3
    try clear hfz10_0
    try clear hfz10_1
    try clear hfz10_2
    try clear hfz10_3
    try clear hfz12_0
    try clear hfz12_1
    try clear hfz12_2
    try clear hfz12_3
    try clear hfz4_0
    try clear hfz4_1
    try clear hfz4_2
    try clear hfz4_3
    try clear hfz7_0
    try clear hfz7_1
    try clear hfz7_2
    try clear hfz7_3
    try clear hfz9_0
    try clear hfz9_1
    try clear hfz9_2
    try clear hfz9_3
    try clear p2
    obtain ⟨x21_2, rfl, HA, HK2, BK149, HB⟩ := hrel
    cases gk with
    | zero => exact absurd HA.out (by simp [fan_Check.l0])
    | succ k2 =>
     have H := HA.out; clear HA; simp only [fan_Check.l0] at H
     by_cases c13 : x21_2 < (l0_3.length : Int)
     ·
      rw [if_pos c13] at H
      have c13b0 : decide (x21_2 < (l0_3.length : Int)) = true := decide_eq_true c13; clear c13
      by_cases c14 : 0 ≤ x21_2
      rotate_left
      · rw [if_neg c14] at H; exact absurd H (by simp)
      rw [if_pos c14] at H; have c14b0 : decide (0 ≤ x21_2) = true := decide_eq_true c14; clear c14
      by_cases c15 : x21_2 < (l0_3.length : Int)
      rotate_left
      · rw [if_neg c15] at H; exact absurd H (by simp)
      rw [if_pos c15] at H; have c15b0 : decide (x21_2 < (l0_3.length : Int)) = true := decide_eq_true c15; clear c15; have HC16 := am H; clear H; have p150 : 0 ≤ (x21_2 : Int) := of_decide_eq_true xa; have q150 : x21_2 < (l0_3.length : Int) := of_decide_eq_true xa; obtain ⟨ad150, e150, hx150_0, hx150_1⟩ := at_T42 HR0_3.out x21_2 p150 q150
      cases e150
      replace hx150_0 := (HB.out.cell (World.block_lt_of_cell? w _ hx150_0)).trans hx150_0; replace hx150_1 := (HB.out.cell (World.block_lt_of_cell? w _ hx150_1)).trans hx150_1; replace p150 := eq_true p150; replace q150 := eq_true q150; go_upto_region 8 with (first | ((with_reducible refine gate_dst (N := 4) rfl ?_); (try (refine gate_guard (by rfl) ?_; dsimp only)); refine xbox 4 (cs := #[.int .i64 0, .int .i64 0]) (t := 42) ?_; intro gb151 hg w17 hbox hb; have n0_ := yw BK149 hb; have n1_ := yb HB hb; have n2_ := am hbox; have n3_ := ys hg HB; have n4_ := ys hg HB; have n5_ := yl hg BK149; have n6_ := yg hg BK149; clear BK149; clear HB; have BK149 := n0_; have HB := n1_; have BK151 := n2_; have GW151 := n3_; have GE151 := n4_; have NB149_151 := n5_; have NB151_149 := n6_; clear n0_ n1_ n2_ n3_ n4_ n5_ n6_; clear hb hbox hg; have hnb18 := NB151_149.out; have hnc18 := NB149_151.out; have hcz19_0 : w17.cell? ⟨gb151, 0, none⟩ = some (.int .i64 0) := xz BK151 0; have hcz19_1 : w17.cell? ⟨gb151, 1, none⟩ = some (.int .i64 0) := xz BK151 1; have hfz19_0 := blk_frozen BK151.out 0; have hfz19_1 := blk_frozen BK151.out 1))
      repeat (go_quiet (first | ((with_reducible refine gate_dst (N := 4) rfl ?_); (try (refine gate_guard (by rfl) ?_; dsimp only)); refine xbox 4 (cs := #[.int .i64 0, .int .i64 0]) (t := 42) ?_; intro gb151 hg w17 hbox hb; have n0_ := yw BK149 hb; have n1_ := yb HB hb; have n2_ := am hbox; have n3_ := ys hg HB; have n4_ := ys hg HB; have n5_ := yl hg BK149; have n6_ := yg hg BK149; clear BK149; clear HB; have BK149 := n0_; have HB := n1_; have BK151 := n2_; have GW151 := n3_; have GE151 := n4_; have NB149_151 := n5_; have NB151_149 := n6_; clear n0_ n1_ n2_ n3_ n4_ n5_ n6_; clear hb hbox hg; have hnb18 := NB151_149.out; have hnc18 := NB149_151.out; have hcz19_0 : w17.cell? ⟨gb151, 0, none⟩ = some (.int .i64 0) := xz BK151 0; have hcz19_1 : w17.cell? ⟨gb151, 1, none⟩ = some (.int .i64 0) := xz BK151 1; have hfz19_0 := blk_frozen BK151.out 0; have hfz19_1 := blk_frozen BK151.out 1)); go_upto_region 8 with (first | ((with_reducible refine gate_dst (N := 4) rfl ?_); (try (refine gate_guard (by rfl) ?_; dsimp only)); refine xbox 4 (cs := #[.int .i64 0, .int .i64 0]) (t := 42) ?_; intro gb151 hg w17 hbox hb; have n0_ := yw BK149 hb; have n1_ := yb HB hb; have n2_ := am hbox; have n3_ := ys hg HB; have n4_ := ys hg HB; have n5_ := yl hg BK149; have n6_ := yg hg BK149; clear BK149; clear HB; have BK149 := n0_; have HB := n1_; have BK151 := n2_; have GW151 := n3_; have GE151 := n4_; have NB149_151 := n5_; have NB151_149 := n6_; clear n0_ n1_ n2_ n3_ n4_ n5_ n6_; clear hb hbox hg; have hnb18 := NB151_149.out; have hnc18 := NB149_151.out; have hcz19_0 : w17.cell? ⟨gb151, 0, none⟩ = some (.int .i64 0) := xz BK151 0; have hcz19_1 : w17.cell? ⟨gb151, 1, none⟩ = some (.int .i64 0) := xz BK151 1; have hfz19_0 := blk_frozen BK151.out 0; have hfz19_1 := blk_frozen BK151.out 1)))
      (try simp only [Act.put, List.setIfInBounds_toArray, List.set_cons_zero, List.set_cons_succ]); go_cut [43] (fun v43 wc => ∃ (kq : Nat) (x43_15 : Bool), v43 = .bool x43_15 ∧ Aside0 (fan_Check.j2 kq x21_2 l0_3 (l0_3.length : Int) x21_2 x43_15 a0_0 a0_1 a0_2 l0_3 ((rd_T42 l0_3 x21_2).f0) ((rd_T42 l0_3 x21_2).f1) = some r) ∧ Aside0 (kq ≤ k2) ∧ Aside0 (wc.heap[gb149]? = some (.cells #[.int .i64 a0_0, .bool a0_1, .bool a0_2, (.slice (some ad150) l0_3.length c0_3)] 25 (0, 0))) ∧ Aside0 (wc.heap[gb151]? = some (.cells #[.int .i64 ((rd_T42 l0_3 x21_2).f0), .int .i64 ((rd_T42 l0_3 x21_2).f1)] 42 (0, 0))) ∧ Aside0 (Below w.heap.size w wc))
      case first =>
       have H := HC16.out; clear HC16
       by_cases c20 : ((rd_T42 l0_3 x21_2).f0) < (-1048576)
       ·
        rw [if_pos c20] at H
        have c20b0 : decide (((rd_T42 l0_3 x21_2).f0) < (-1048576)) = true := decide_eq_true c20; clear c20; (first | rw [c20b0] | (simp only [i64_w, i32_w]; rw [c20b0]) | skip); have H' := am H; clear H; have hnb21 := NB151_149.out; have hnc21 := NB149_151.out; have hcz22_0 : w17.cell? ⟨gb151, 0, none⟩ = some (.int .i64 0) := xz BK151 0; have hcz22_1 : w17.cell? ⟨gb151, 1, none⟩ = some (.int .i64 0) := xz BK151 1; have hfz22_0 := blk_frozen BK151.out 0; have hfz22_1 := blk_frozen BK151.out 1; go_wp2
        repeat (go_quiet (fail); try go_wp2)
        go_meet
        case rel => exact ⟨_, (true), xr, H', ⟨by have := HJ4.out; have := HK2.out; first | omega | exact Nat.le_refl _⟩, ⟨by (with_reducible repeat (first | refine blk_drewN ?_ _ | refine blk_drew ?_ | refine blk_alloc ?_ _)); refine blk_far ?_ NB149_151.out _; (with_reducible repeat (first | refine blk_drewN ?_ _ | refine blk_drew ?_ | refine blk_alloc ?_ _)); refine blk_far ?_ NB149_151.out _; (with_reducible repeat (first | refine blk_drewN ?_ _ | refine blk_drew ?_ | refine blk_alloc ?_ _)); exact BK149.out⟩, ⟨by (with_reducible repeat (first | refine blk_drewN ?_ _ | refine blk_drew ?_ | refine blk_alloc ?_ _)); refine blk_put (cs := #[.int .i64 ((rd_T42 l0_3 x21_2).f0), .int .i64 0]) ?_ 1 _ rfl; (with_reducible repeat (first | refine blk_drewN ?_ _ | refine blk_drew ?_ | refine blk_alloc ?_ _)); refine blk_put (cs := #[.int .i64 0, .int .i64 0]) ?_ 0 _ rfl; (with_reducible repeat (first | refine blk_drewN ?_ _ | refine blk_drew ?_ | refine blk_alloc ?_ _)); exact BK151.out⟩, ⟨xh HB⟩⟩
       rw [if_neg c20] at H; have c20b0 : decide (((rd_T42 l0_3 x21_2).f0) < (-1048576)) = false := decide_eq_false c20; clear c20; (first | rw [c20b0] | (simp only [i64_w, i32_w]; rw [c20b0]) | skip)
       by_cases c23 : ((rd_T42 l0_3 x21_2).f0) > 1048576
       ·
        rw [if_pos c23] at H
        have c23b0 : decide (1048576 < ((rd_T42 l0_3 x21_2).f0)) = true := decide_eq_true c23; clear c23; have H' := am H; clear H; have hnb24 := NB151_149.out; have hnc24 := NB149_151.out; have hcz25_0 : w17.cell? ⟨gb151, 0, none⟩ = some (.int .i64 0) := xz BK151 0; have hcz25_1 : w17.cell? ⟨gb151, 1, none⟩ = some (.int .i64 0) := xz BK151 1; have hfz25_0 := blk_frozen BK151.out 0; have hfz25_1 := blk_frozen BK151.out 1; go_wp2
        repeat (go_quiet (fail); try go_wp2)
        go_meet
        case rel => exact ⟨_, (true), xr, H', ⟨by have := HJ4.out; have := HK2.out; first | omega | exact Nat.le_refl _⟩, ⟨by (with_reducible repeat (first | refine blk_drewN ?_ _ | refine blk_drew ?_ | refine blk_alloc ?_ _)); refine blk_far ?_ NB149_151.out _; (with_reducible repeat (first | refine blk_drewN ?_ _ | refine blk_drew ?_ | refine blk_alloc ?_ _)); refine blk_far ?_ NB149_151.out _; (with_reducible repeat (first | refine blk_drewN ?_ _ | refine blk_drew ?_ | refine blk_alloc ?_ _)); exact BK149.out⟩, ⟨by (with_reducible repeat (first | refine blk_drewN ?_ _ | refine blk_drew ?_ | refine blk_alloc ?_ _)); refine blk_put (cs := #[.int .i64 ((rd_T42 l0_3 x21_2).f0), .int .i64 0]) ?_ 1 _ rfl; (with_reducible repeat (first | refine blk_drewN ?_ _ | refine blk_drew ?_ | refine blk_alloc ?_ _)); refine blk_put (cs := #[.int .i64 0, .int .i64 0]) ?_ 0 _ rfl; (with_reducible repeat (first | refine blk_drewN ?_ _ | refine blk_drew ?_ | refine blk_alloc ?_ _)); exact BK151.out⟩, ⟨xh HB⟩⟩
       rw [if_neg c23] at H; have c23b0 : decide (1048576 < ((rd_T42 l0_3 x21_2).f0)) = false := decide_eq_false c23; clear c23
       by_cases c26 : ((rd_T42 l0_3 x21_2).f1) < 0
       ·
        rw [if_pos c26] at H
        have c26b0 : decide (((rd_T42 l0_3 x21_2).f1) < 0) = true := decide_eq_true c26; clear c26; have H' := am H; clear H; have hnb27 := NB151_149.out; have hnc27 := NB149_151.out; have hcz28_0 : w17.cell? ⟨gb151, 0, none⟩ = some (.int .i64 0) := xz BK151 0; have hcz28_1 : w17.cell? ⟨gb151, 1, none⟩ = some (.int .i64 0) := xz BK151 1; have hfz28_0 := blk_frozen BK151.out 0; have hfz28_1 := blk_frozen BK151.out 1; go_wp2
        repeat (go_quiet (fail); try go_wp2)
        go_meet
        case rel => exact ⟨_, (true), xr, H', ⟨by have := HJ4.out; have := HK2.out; first | omega | exact Nat.le_refl _⟩, ⟨by (with_reducible repeat (first | refine blk_drewN ?_ _ | refine blk_drew ?_ | refine blk_alloc ?_ _)); refine blk_far ?_ NB149_151.out _; (with_reducible repeat (first | refine blk_drewN ?_ _ | refine blk_drew ?_ | refine blk_alloc ?_ _)); refine blk_far ?_ NB149_151.out _; (with_reducible repeat (first | refine blk_drewN ?_ _ | refine blk_drew ?_ | refine blk_alloc ?_ _)); exact BK149.out⟩, ⟨by (with_reducible repeat (first | refine blk_drewN ?_ _ | refine blk_drew ?_ | refine blk_alloc ?_ _)); refine blk_put (cs := #[.int .i64 ((rd_T42 l0_3 x21_2).f0), .int .i64 0]) ?_ 1 _ rfl; (with_reducible repeat (first | refine blk_drewN ?_ _ | refine blk_drew ?_ | refine blk_alloc ?_ _)); refine blk_put (cs := #[.int .i64 0, .int .i64 0]) ?_ 0 _ rfl; (with_reducible repeat (first | refine blk_drewN ?_ _ | refine blk_drew ?_ | refine blk_alloc ?_ _)); exact BK151.out⟩, ⟨xh HB⟩⟩
       rw [if_neg c26] at H; have c26b0 : decide (((rd_T42 l0_3 x21_2).f1) < 0) = false := decide_eq_false c26; clear c26; have H' := am H; clear H; have hnb29 := NB151_149.out; have hnc29 := NB149_151.out; have hcz30_0 : w17.cell? ⟨gb151, 0, none⟩ = some (.int .i64 0) := xz BK151 0; have hcz30_1 : w17.cell? ⟨gb151, 1, none⟩ = some (.int .i64 0) := xz BK151 1; have hfz30_0 := blk_frozen BK151.out 0; have hfz30_1 := blk_frozen BK151.out 1; go_wp2
       repeat (go_quiet (fail); try go_wp2)
       go_meet
       case rel => exact ⟨_, (decide (((rd_T42 l0_3 x21_2).f1) > 2199023255552)), xr, H', ⟨by have := HJ4.out; have := HK2.out; first | omega | exact Nat.le_refl _⟩, ⟨by (with_reducible repeat (first | refine blk_drewN ?_ _ | refine blk_drew ?_ | refine blk_alloc ?_ _)); refine blk_far ?_ NB149_151.out _; (with_reducible repeat (first | refine blk_drewN ?_ _ | refine blk_drew ?_ | refine blk_alloc ?_ _)); refine blk_far ?_ NB149_151.out _; (with_reducible repeat (first | refine blk_drewN ?_ _ | refine blk_drew ?_ | refine blk_alloc ?_ _)); exact BK149.out⟩, ⟨by (with_reducible repeat (first | refine blk_drewN ?_ _ | refine blk_drew ?_ | refine blk_alloc ?_ _)); refine blk_put (cs := #[.int .i64 ((rd_T42 l0_3 x21_2).f0), .int .i64 0]) ?_ 1 _ rfl; (with_reducible repeat (first | refine blk_drewN ?_ _ | refine blk_drew ?_ | refine blk_alloc ?_ _)); refine blk_put (cs := #[.int .i64 0, .int .i64 0]) ?_ 0 _ rfl; (with_reducible repeat (first | refine blk_drewN ?_ _ | refine blk_drew ?_ | refine blk_alloc ?_ _)); exact BK151.out⟩, ⟨xh HB⟩⟩
      case rest =>
       clear HC16
       try clear c1
       try clear p1
       try clear q1
       try clear hx1
       try clear c2
       try clear c2b0
       try clear p2
       try clear c8
       try clear c8b0
       try clear c8b1
       try clear c10
       try clear c11
       try clear c13
       try clear c13b0
       try clear c14
       try clear c14b0
       try clear c15
       try clear c15b0
       try clear p15
       try clear q15
       try clear hx15
       try clear c18
       try clear c20
       try clear c20b0
       try clear c21
       try clear c23
       try clear c23b0
       try clear c24
       try clear c26
       try clear c26b0
       try clear c27
       try clear c29
       try clear hcz10_0
       try clear hcz10_1
       try clear hcz10_2
       try clear hcz10_3
       try clear hcz12_0
       try clear hcz12_1
       try clear hcz12_2
       try clear hcz12_3
       try clear hcz19_0
       try clear hcz19_1
       try clear hcz22_0
       try clear hcz22_1
       try clear hcz25_0
       try clear hcz25_1
       try clear hcz28_0
       try clear hcz28_1
       try clear hcz30_0
       try clear hcz30_1
       try clear hcz4_0
       try clear hcz4_1
       try clear hcz4_2
       try clear hcz4_3
       try clear hcz7_0
       try clear hcz7_1
       try clear hcz7_2
       try clear hcz7_3
       try clear hcz9_0
       try clear hcz9_1
       try clear hcz9_2
       try clear hcz9_3
       try clear hfz10_0
       try clear hfz10_1
       try clear hfz10_2
       try clear hfz10_3
       try clear hfz12_0
       try clear hfz12_1
       try clear hfz12_2
       try clear hfz12_3
       try clear hfz19_0
       try clear hfz19_1
       try clear hfz22_0
       try clear hfz22_1
       try clear hfz25_0
       try clear hfz25_1
       try clear hfz28_0
       try clear hfz28_1
       try clear hfz30_0
       try clear hfz30_1
       try clear hfz4_0
       try clear hfz4_1
       try clear hfz4_2
       try clear hfz4_3
       try clear hfz7_0
       try clear hfz7_1
       try clear hfz7_2
       try clear hfz7_3
       try clear hfz9_0
       try clear hfz9_1
       try clear hfz9_2
       try clear hfz9_3
       try clear hx150_0
       try clear hx150_1
       try clear p150
       try clear p2
       try clear q150
       obtain ⟨kq, x43_15, rfl, HA, HJ15, BK149, BK151, HB⟩ := hcut
       cases kq with
       | zero => exact absurd HA.out (by simp [fan_Check.j2])
       | succ kj15 =>
        have H := HA.out; clear HA; simp only [fan_Check.j2] at H
        by_cases c31 : x43_15 = true
        ·
         subst c31
         (have H1 : (some 1) = some r := by rw [if_pos rfl] at H; exact H); clear H; have H := H1; clear H1; obtain rfl := Option.some.inj H; go_wp2
         repeat (go_quiet (fail); try go_wp2)
         go_ret; exact ⟨by first | rfl | (simp [errW_none, errW_some] <;> rfl) | (simp [*, errW_none, errW_some] <;> rfl), xh HB⟩
        replace c31 := Bool.eq_false_iff.mpr c31; subst c31; (have H1 : (if x21_2 > 0 then (if 0 ≤ (wrap64 (x21_2 - 1)) then (if (wrap64 (x21_2 - 1)) < (l0_3.length : Int) then (if ((rd_T42 l0_3 x21_2).f0) ≤ ((rd_T42 l0_3 (wrap64 (x21_2 - 1))).f0) then (some 14) else (if ((rd_T42 l0_3 x21_2).f1) > ((rd_T42 l0_3 (wrap64 (x21_2 - 1))).f1) then (some 14) else (fan_Check.l0 kj15 l0_3 (l0_3.length : Int) (wrap64 (x21_2 + 1)) a0_0 a0_1 a0_2 l0_3))) else (none)) else (none)) else (fan_Check.l0 kj15 l0_3 (l0_3.length : Int) (wrap64 (x21_2 + 1)) a0_0 a0_1 a0_2 l0_3)) = some r := by rw [if_neg (show ¬ (false = true) by decide)] at H; exact H); clear H; have H := H1; clear H1
        by_cases c32 : x21_2 > 0
        ·
         rw [if_pos c32] at H
         have c32b0 : decide (0 < x21_2) = true := decide_eq_true c32; clear c32; obtain ⟨ji33, hji33⟩ : ∃ j_ : Int, (wrap64 (x21_2 - 1)) = j_ := ⟨_, rfl⟩; (replace H : (if 0 ≤ (ji33) then (if (ji33) < (l0_3.length : Int) then (if ((rd_T42 l0_3 x21_2).f0) ≤ ((rd_T42 l0_3 (ji33)).f0) then (some 14) else (if ((rd_T42 l0_3 x21_2).f1) > ((rd_T42 l0_3 (ji33)).f1) then (some 14) else (fan_Check.l0 kj15 l0_3 (l0_3.length : Int) (wrap64 (x21_2 + 1)) a0_0 a0_1 a0_2 l0_3))) else (none)) else (none)) = some r := by first | (rw [hji33] at H; exact H) | (simp only [hji33] at H ⊢; exact H)); have hji33w : (IntKind.i64.wrap (x21_2 - 1)) = ji33 := (i64_w _).trans hji33
         by_cases c34 : 0 ≤ (ji33)
         rotate_left
         · rw [if_neg c34] at H; exact absurd H (by simp)
         rw [if_pos c34] at H; have c34b0 : decide (0 ≤ (ji33)) = true := decide_eq_true c34; clear c34
         by_cases c35 : (ji33) < (l0_3.length : Int)
         rotate_left
         · rw [if_neg c35] at H; exact absurd H (by simp)
         rw [if_pos c35] at H; have c35b0 : decide ((ji33) < (l0_3.length : Int)) = true := decide_eq_true c35; clear c35
         by_cases c36 : ((rd_T42 l0_3 x21_2).f0) ≤ ((rd_T42 l0_3 (ji33)).f0)
         ·
          rw [if_pos c36] at H
          have c36b0 : decide (((rd_T42 l0_3 x21_2).f0) ≤ ((rd_T42 l0_3 (ji33)).f0)) = true := decide_eq_true c36; clear c36; obtain rfl := Option.some.inj H; have hnb37 := NB151_149.out; have hnc37 := NB149_151.out; have hcz38_0 : wc.cell? ⟨gb151, 0, none⟩ = some (.int .i64 ((rd_T42 l0_3 x21_2).f0)) := xz BK151 0; have hcz38_1 : wc.cell? ⟨gb151, 1, none⟩ = some (.int .i64 ((rd_T42 l0_3 x21_2).f1)) := xz BK151 1; have hfz38_0 := blk_frozen BK151.out 0; have hfz38_1 := blk_frozen BK151.out 1; have hcz39_0 : wc.cell? ⟨gb149, 0, none⟩ = some (.int .i64 a0_0) := xz BK149 0; have hcz39_1 : wc.cell? ⟨gb149, 1, none⟩ = some (.bool a0_1) := xz BK149 1; have hcz39_2 : wc.cell? ⟨gb149, 2, none⟩ = some (.bool a0_2) := xz BK149 2; have hcz39_3 : wc.cell? ⟨gb149, 3, none⟩ = some (.slice (some ad150) l0_3.length c0_3) := xz BK149 3; have hfz39_0 := blk_frozen BK149.out 0; have hfz39_1 := blk_frozen BK149.out 1; have hfz39_2 := blk_frozen BK149.out 2; have hfz39_3 := blk_frozen BK149.out 3; have p152 : 0 ≤ ((ji33) : Int) := of_decide_eq_true xa; have q152 : (ji33) < (l0_3.length : Int) := of_decide_eq_true xa; obtain ⟨ad152, e152, hx152_0, hx152_1⟩ := at_T42 HR0_3.out (ji33) p152 q152; obtain rfl : ad150 = ad152 := (by injection e152); replace hx152_0 := (HB.out.cell (World.block_lt_of_cell? w _ hx152_0)).trans hx152_0; replace hx152_1 := (HB.out.cell (World.block_lt_of_cell? w _ hx152_1)).trans hx152_1; replace p152 := eq_true p152; replace q152 := eq_true q152; go_wp2
          repeat (go_quiet (fail); try go_wp2)
          go_ret; exact ⟨by first | rfl | (simp [errW_none, errW_some] <;> rfl) | (simp only [← hji33]; first | rfl | (simp [errW_none, errW_some] <;> rfl)) | (simp [*, errW_none, errW_some] <;> rfl), xh HB⟩
         rw [if_neg c36] at H; have c36b0 : decide (((rd_T42 l0_3 x21_2).f0) ≤ ((rd_T42 l0_3 (ji33)).f0)) = false := decide_eq_false c36; clear c36
         by_cases c40 : ((rd_T42 l0_3 x21_2).f1) > ((rd_T42 l0_3 (ji33)).f1)
         ·
          rw [if_pos c40] at H
          have c40b0 : decide (((rd_T42 l0_3 (ji33)).f1) < ((rd_T42 l0_3 x21_2).f1)) = true := decide_eq_true c40; clear c40; obtain rfl := Option.some.inj H; have hnb41 := NB151_149.out; have hnc41 := NB149_151.out; have hcz42_0 : wc.cell? ⟨gb151, 0, none⟩ = some (.int .i64 ((rd_T42 l0_3 x21_2).f0)) := xz BK151 0; have hcz42_1 : wc.cell? ⟨gb151, 1, none⟩ = some (.int .i64 ((rd_T42 l0_3 x21_2).f1)) := xz BK151 1; have hfz42_0 := blk_frozen BK151.out 0; have hfz42_1 := blk_frozen BK151.out 1; have hcz43_0 : wc.cell? ⟨gb149, 0, none⟩ = some (.int .i64 a0_0) := xz BK149 0; have hcz43_1 : wc.cell? ⟨gb149, 1, none⟩ = some (.bool a0_1) := xz BK149 1; have hcz43_2 : wc.cell? ⟨gb149, 2, none⟩ = some (.bool a0_2) := xz BK149 2; have hcz43_3 : wc.cell? ⟨gb149, 3, none⟩ = some (.slice (some ad150) l0_3.length c0_3) := xz BK149 3; have hfz43_0 := blk_frozen BK149.out 0; have hfz43_1 := blk_frozen BK149.out 1; have hfz43_2 := blk_frozen BK149.out 2; have hfz43_3 := blk_frozen BK149.out 3; have p152 : 0 ≤ ((ji33) : Int) := of_decide_eq_true xa; have q152 : (ji33) < (l0_3.length : Int) := of_decide_eq_true xa; obtain ⟨ad152, e152, hx152_0, hx152_1⟩ := at_T42 HR0_3.out (ji33) p152 q152; obtain rfl : ad150 = ad152 := (by injection e152); replace hx152_0 := (HB.out.cell (World.block_lt_of_cell? w _ hx152_0)).trans hx152_0; replace hx152_1 := (HB.out.cell (World.block_lt_of_cell? w _ hx152_1)).trans hx152_1; replace p152 := eq_true p152; replace q152 := eq_true q152; have p153 : 0 ≤ ((ji33) : Int) := of_decide_eq_true xa; have q153 : (ji33) < (l0_3.length : Int) := of_decide_eq_true xa; obtain ⟨ad153, e153, hx153_0, hx153_1⟩ := at_T42 HR0_3.out (ji33) p153 q153; obtain rfl : ad150 = ad153 := (by injection e153); replace hx153_0 := (HB.out.cell (World.block_lt_of_cell? w _ hx153_0)).trans hx153_0; replace hx153_1 := (HB.out.cell (World.block_lt_of_cell? w _ hx153_1)).trans hx153_1; replace p153 := eq_true p153; replace q153 := eq_true q153; go_wp2
          repeat (go_quiet (fail); try go_wp2)
          go_ret; exact ⟨by first | rfl | (simp [errW_none, errW_some] <;> rfl) | (simp only [← hji33]; first | rfl | (simp [errW_none, errW_some] <;> rfl)) | (simp [*, errW_none, errW_some] <;> rfl), xh HB⟩
         rw [if_neg c40] at H; have c40b0 : decide (((rd_T42 l0_3 (ji33)).f1) < ((rd_T42 l0_3 x21_2).f1)) = false := decide_eq_false c40; clear c40; have H' := am H; clear H; have hnb44 := NB151_149.out; have hnc44 := NB149_151.out; have hcz45_0 : wc.cell? ⟨gb151, 0, none⟩ = some (.int .i64 ((rd_T42 l0_3 x21_2).f0)) := xz BK151 0; have hcz45_1 : wc.cell? ⟨gb151, 1, none⟩ = some (.int .i64 ((rd_T42 l0_3 x21_2).f1)) := xz BK151 1; have hfz45_0 := blk_frozen BK151.out 0; have hfz45_1 := blk_frozen BK151.out 1; have hcz46_0 : wc.cell? ⟨gb149, 0, none⟩ = some (.int .i64 a0_0) := xz BK149 0; have hcz46_1 : wc.cell? ⟨gb149, 1, none⟩ = some (.bool a0_1) := xz BK149 1; have hcz46_2 : wc.cell? ⟨gb149, 2, none⟩ = some (.bool a0_2) := xz BK149 2; have hcz46_3 : wc.cell? ⟨gb149, 3, none⟩ = some (.slice (some ad150) l0_3.length c0_3) := xz BK149 3; have hfz46_0 := blk_frozen BK149.out 0; have hfz46_1 := blk_frozen BK149.out 1; have hfz46_2 := blk_frozen BK149.out 2; have hfz46_3 := blk_frozen BK149.out 3; have p152 : 0 ≤ ((ji33) : Int) := of_decide_eq_true xa; have q152 : (ji33) < (l0_3.length : Int) := of_decide_eq_true xa; obtain ⟨ad152, e152, hx152_0, hx152_1⟩ := at_T42 HR0_3.out (ji33) p152 q152; obtain rfl : ad150 = ad152 := (by injection e152); replace hx152_0 := (HB.out.cell (World.block_lt_of_cell? w _ hx152_0)).trans hx152_0; replace hx152_1 := (HB.out.cell (World.block_lt_of_cell? w _ hx152_1)).trans hx152_1; replace p152 := eq_true p152; replace q152 := eq_true q152; have p153 : 0 ≤ ((ji33) : Int) := of_decide_eq_true xa; have q153 : (ji33) < (l0_3.length : Int) := of_decide_eq_true xa; obtain ⟨ad153, e153, hx153_0, hx153_1⟩ := at_T42 HR0_3.out (ji33) p153 q153; obtain rfl : ad150 = ad153 := (by injection e153); replace hx153_0 := (HB.out.cell (World.block_lt_of_cell? w _ hx153_0)).trans hx153_0; replace hx153_1 := (HB.out.cell (World.block_lt_of_cell? w _ hx153_1)).trans hx153_1; replace p153 := eq_true p153; replace q153 := eq_true q153; go_wp2
         repeat (go_quiet (fail); try go_wp2)
         go_roundg kj15
         case measure => have := HJ4.out; have := HK2.out; have := HJ15.out; omega
         case rel => exact ⟨(wrap64 (x21_2 + 1)), xr, H', ⟨by have := HJ4.out; have := HK2.out; have := HJ15.out; omega⟩, ⟨xb BK149⟩, ⟨xh HB⟩⟩
        rw [if_neg c32] at H; have c32b0 : decide (0 < x21_2) = false := decide_eq_false c32; clear c32; have H' := am H; clear H; go_wp2
        repeat (go_quiet (fail); try go_wp2)
        go_roundg kj15
        case measure => have := HJ4.out; have := HK2.out; have := HJ15.out; omega
        case rel => exact ⟨(wrap64 (x21_2 + 1)), xr, H', ⟨by have := HJ4.out; have := HK2.out; have := HJ15.out; omega⟩, ⟨xb BK149⟩, ⟨xh HB⟩⟩
     rw [if_neg c13] at H; have c13b0 : decide (x21_2 < (l0_3.length : Int)) = false := decide_eq_false c13; clear c13; obtain rfl := Option.some.inj H; go_wp2
     repeat (go_quiet (fail); try go_wp2)
     go_ret; exact ⟨by first | rfl | (simp [errW_none, errW_some] <;> rfl) | (simp [*, errW_none, errW_some] <;> rfl), xh HB⟩

end Go.Proofs.Ytbiempkdfnfpgaa.PA
