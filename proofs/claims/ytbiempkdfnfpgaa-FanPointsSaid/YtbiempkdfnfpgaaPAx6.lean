-- written by a program of this session, a changed copy of the kit print
import Derived.Test.YtbiempkdfnfpgaaPAx0
import Derived.Test.YtbiempkdfnfpgaaPAx5
import Derived.Test.YtbiempkdfnfpgaaQ
namespace Go.Proofs.Ytbiempkdfnfpgaa.PA
open Go.RowKit Go.Proofs.YtbiempkdfnfpgaaW.PrintWords Go.Proofs.YtbiempkdfnfpgaaW.PrintLast Go.Proofs.YtbiempkdfnfpgaaW.PrintMore Go.Proofs.Ytbiempkdfnfpgaa.Q
attribute [local go_sem] Instr.field asAgg part isAgg max2_int min2_int max_two min_two max_three min_three max_four min_four   -- for this text's walks alone
set_option linter.unusedVariables false
set_option linter.unusedSimpArgs false

/-! ### fan_curve: function 22 -/
def fan_curve.l0 : Nat → Int → Int → Int → Bool → Bool → List (S42) → Int → Int → Option (Int × Int)
 | 0, _, _, _, _, _, _, _, _ => none
 | k + 1, x1, x7, x168000, x168001, x168002, x168003, x173000, x173001 => if x7 < (x168003.length : Int) then (if 0 ≤ x7 then (if x1 ≤ ((rd_T42 x168003 x7).f0) then (if 0 ≤ (wrap64 (x7 - 1)) then (if (wrap64 (x7 - 1)) < (x168003.length : Int) then ((fan_between.f ((rd_T42 x168003 (wrap64 (x7 - 1))).f0) ((rd_T42 x168003 (wrap64 (x7 - 1))).f1) ((rd_T42 x168003 x7).f0) ((rd_T42 x168003 x7).f1) x1).bind fun bt176 => (some (bt176.1, bt176.2))) else (none)) else (none)) else (fan_curve.l0 k x1 (wrap64 (x7 + 1)) x168000 x168001 x168002 x168003 x173000 x173001)) else (none)) else (some (x173001, x173001))
def fan_curve.f (k : Nat) (a0_0 : Int) (a0_1 : Bool) (a0_2 : Bool) (l0_3 : List (S42)) (a1 : Int) : Option (Int × Int) := if 0 < (l0_3.length : Int) then (if 0 ≤ (wrap64 ((l0_3.length : Int) - 1)) then (if (wrap64 ((l0_3.length : Int) - 1)) < (l0_3.length : Int) then (if a1 ≤ ((rd_T42 l0_3 0).f0) then (some ((rd_T42 l0_3 0).f1, (rd_T42 l0_3 0).f1)) else (fan_curve.l0 k a1 1 a0_0 a0_1 a0_2 l0_3 ((rd_T42 l0_3 (wrap64 ((l0_3.length : Int) - 1))).f0) ((rd_T42 l0_3 (wrap64 ((l0_3.length : Int) - 1))).f1))) else (none)) else (none)) else (none)
theorem fan_curve.mono_l : ∀ k, (∀ y0 y1 y2 y3 y4 y5 y6 y7, LeO (fan_curve.l0 k y0 y1 y2 y3 y4 y5 y6 y7) (fan_curve.l0 (k + 1) y0 y1 y2 y3 y4 y5 y6 y7))
 | 0 => fun _ _ _ _ _ _ _ _ r h => by simp [fan_curve.l0] at h
 | k + 1 => by
  have ih0 := fan_curve.mono_l k
  ·
   intro y0 y1 y2 y3 y4 y5 y6 y7
   unfold fan_curve.l0
   repeat' first
   | (with_reducible exact ih0 _ _ _ _ _ _ _ _)
   | (with_reducible exact LeO.refl _)
   | (with_reducible exact LeO.none _)
   | (with_reducible refine LeO.ite ?_ ?_)
   | (with_reducible refine LeO.bind ?_ (fun _ => ?_))
   | exact ih0 _ _ _ _ _ _ _ _
   | exact LeO.none _
   | refine LeO.ite ?_ ?_
   | refine LeO.bind ?_ (fun _ => ?_)
theorem fan_curve.mono : ∀ a0 a1 a2 a3 a4 k, LeO (fan_curve.f k a0 a1 a2 a3 a4) (fan_curve.f (k + 1) a0 a1 a2 a3 a4) := by
 intro a0 a1 a2 a3 a4 k
 have ih0 := fan_curve.mono_l k
 unfold fan_curve.f
 repeat' first
   | (with_reducible exact ih0 _ _ _ _ _ _ _ _)
   | (with_reducible exact LeO.refl _)
   | (with_reducible exact LeO.none _)
   | (with_reducible refine LeO.ite ?_ ?_)
   | (with_reducible refine LeO.bind ?_ (fun _ => ?_))
   | exact ih0 _ _ _ _ _ _ _ _
   | exact LeO.none _
   | refine LeO.ite ?_ ?_
   | refine LeO.bind ?_ (fun _ => ?_)
def fan_curve.T1 : Bool × List (List Nat × List Nat) := (true, [([], []), ([0], [0]), ([1], [1]), ([2], [2]), ([], []), ([4], [4]), ([], []), ([6], [6]), ([7], [7]), ([8], [8]), ([5, 9], [5, 9]), ([10], [10]), ([], []), ([], []), ([12, 3, 0, 1, 2, 3, 12, 13], [3, 12]), ([13, 11, 14, 0, 1, 2, 3, 4, 5, 6, 7, 8, 9, 10, 11, 12, 13, 14], [11, 13])])
def fan_curve.B1 : List Nat := [0, 1, 3, 7, 0, 16, 0, 64, 192, 448, 1008, 2032, 0, 0, 12303, 32767]
theorem fan_curve.tab1 : rtab .any (opsOf Try.f22 1) = fan_curve.T1 := by kernel_rfl
theorem fan_curve.bits1 : waitsOk fan_curve.T1.2 fan_curve.B1 = true := by kernel_rfl
def fan_curve.T8 : Bool × List (List Nat × List Nat) := (true, [([], []), ([0], [0]), ([], []), ([2], [2]), ([1, 3], [1, 3]), ([4], [4]), ([], []), ([6], [6]), ([], []), ([7, 8], [7, 8]), ([9], [9]), ([], []), ([5, 10, 11], [5, 10, 11]), ([12, 12, 0, 1, 2, 3, 4, 5, 6, 7, 8, 9, 10, 11, 12], [12])])
def fan_curve.B8 : List Nat := [0, 1, 0, 4, 15, 31, 0, 64, 0, 448, 960, 0, 4095, 8191]
theorem fan_curve.tab8 : rtab .any (opsOf Try.f22 8) = fan_curve.T8 := by kernel_rfl
theorem fan_curve.bits8 : waitsOk fan_curve.T8.2 fan_curve.B8 = true := by kernel_rfl
set_option maxHeartbeats 8000000 in
set_option maxRecDepth 100000 in
theorem fan_curve.calls (k : Nat) (a0_0 : Int) (a0_1 : Bool) (a0_2 : Bool) (A0_3 : Option Addr) (c0_3 : Nat) (l0_3 : List (S42)) (a1 : Int) (r1 : Int) (r2 : Int) (w : World) (hr0_3 : Kd.C k42 w A0_3 l0_3.length l0_3) (hc0_3 : l0_3.length ≤ c0_3) (h : fan_curve.f k a0_0 a0_1 a0_2 l0_3 a1 = some (r1, r2)) :
  Calls Try.prog 22 #[.agg #[.int .i64 a0_0, .bool a0_1, .bool a0_2, .slice A0_3 l0_3.length c0_3], .int .i64 a1] w fun e w' => e = .returned (.agg #[.int .i64 r1, .int .i64 r2]) ∧ Below w.heap.size w w' := by
 have hu25 := Try.underlying25
 have hu34 := Try.underlying34
 have hu42 := Try.underlying42
 have HR0_3 := am hr0_3
 have HC0_3 := am hc0_3
 clear hr0_3 hc0_3
 have HB := am (Below.refl w.heap.size w)
 have H : (if 0 < (l0_3.length : Int) then (if 0 ≤ (wrap64 ((l0_3.length : Int) - 1)) then (if (wrap64 ((l0_3.length : Int) - 1)) < (l0_3.length : Int) then (if a1 ≤ ((rd_T42 l0_3 0).f0) then (some ((rd_T42 l0_3 0).f1, (rd_T42 l0_3 0).f1)) else (fan_curve.l0 k a1 1 a0_0 a0_1 a0_2 l0_3 ((rd_T42 l0_3 (wrap64 ((l0_3.length : Int) - 1))).f0) ((rd_T42 l0_3 (wrap64 ((l0_3.length : Int) - 1))).f1))) else (none)) else (none)) else (none)) = some (r1, r2) := h
 clear h
 by_cases c3 : 0 < (l0_3.length : Int)
 ·
  rw [if_pos c3] at H
  have c3b0 : decide (0 < (l0_3.length : Int)) = true := decide_eq_true c3
  have c3b1 : decide (0 < l0_3.length) = true := decide_eq_true (by omega)
  clear c3
  obtain ⟨ji4, hji4⟩ : ∃ j_ : Int, (wrap64 ((l0_3.length : Int) - 1)) = j_ := ⟨_, rfl⟩
  replace H : (if 0 ≤ (ji4) then (if (ji4) < (l0_3.length : Int) then (if a1 ≤ ((rd_T42 l0_3 0).f0) then (some ((rd_T42 l0_3 0).f1, (rd_T42 l0_3 0).f1)) else (fan_curve.l0 k a1 1 a0_0 a0_1 a0_2 l0_3 ((rd_T42 l0_3 (ji4)).f0) ((rd_T42 l0_3 (ji4)).f1))) else (none)) else (none)) = some (r1, r2) := by first | (rw [hji4] at H; exact H) | (simp only [hji4] at H ⊢; exact H)
  have hji4w : (IntKind.i64.wrap ((l0_3.length : Int) - 1)) = ji4 := (i64_w _).trans hji4
  by_cases c5 : 0 ≤ (ji4)
  rotate_left
  · rw [if_neg c5] at H; exact absurd H (by simp)
  rw [if_pos c5] at H
  have c5b0 : decide (0 ≤ (ji4)) = true := decide_eq_true c5
  clear c5
  by_cases c6 : (ji4) < (l0_3.length : Int)
  rotate_left
  · rw [if_neg c6] at H; exact absurd H (by simp)
  rw [if_pos c6] at H
  have c6b0 : decide ((ji4) < (l0_3.length : Int)) = true := decide_eq_true c6
  clear c6
  by_cases c7 : a1 ≤ ((rd_T42 l0_3 0).f0)
  ·
   rw [if_pos c7] at H
   have c7b0 : decide (a1 ≤ ((rd_T42 l0_3 0).f0)) = true := decide_eq_true c7
   clear c7
   simp only [Option.some.injEq, Prod.mk.injEq] at H
   obtain ⟨rfl, rfl⟩ := H
   go_enter Try.func22, Try.ntmps22
   try go_wp2_with (first | ((with_reducible refine gate_dst (N := 2) rfl ?_); refine xbox 2 (cs := #[.int .i64 a0_0, .bool a0_1, .bool a0_2, .slice A0_3 l0_3.length c0_3]) (t := 25) ?_; intro gb167 hg w8 hbox hb; have n0_ := am (below_step (xh HB) hb); have n1_ := am (hbox); have n2_ := am (xs hg HB); have n3_ := am (xs hg HB); clear HB; have HB := n0_; have BK167 := n1_; have GW167 := n2_; have GE167 := n3_; clear n0_ n1_ n2_ n3_; clear hb hbox hg) | ((with_reducible refine gate_dst (N := 4) rfl ?_); refine xbox 4 (cs := #[.int .i64 0, .int .i64 0]) (t := 34) ?_; intro gb168 hg w9 hbox hb; have n0_ := am (xw BK167 hb); have n1_ := am (below_step (xh HB) hb); have n2_ := am (hbox); have n3_ := am (xs hg HB); have n4_ := am (xs hg HB); have n5_ := am (xnl hg BK167); have n6_ := am (xng hg BK167); clear BK167; clear HB; have BK167 := n0_; have HB := n1_; have BK168 := n2_; have GW168 := n3_; have GE168 := n4_; have NB167_168 := n5_; have NB168_167 := n6_; clear n0_ n1_ n2_ n3_ n4_ n5_ n6_; clear hb hbox hg))
   have n0_ := am (blk_drew BK167.out)
   have n1_ := am (blk_drew BK168.out)
   have n2_ := am (below_drew1 HB.out)
   clear BK167
   clear BK168
   clear HB
   have BK167 := n0_
   have BK168 := n1_
   have HB := n2_
   clear n0_ n1_ n2_
   have p169 : 0 ≤ (0 : Int) := (by omega)
   have q169 : 0 < (l0_3.length : Int) := of_decide_eq_true xa
   obtain ⟨ad169, e169, hx169_0, hx169_1⟩ := at_T42 HR0_3.out 0 p169 q169
   have hw169_1 := hx169_1
   (try rw [show ((0 : Int)).toNat = 0 from rfl] at hw169_1)
   (try rw [show 0 * 2 = 0 from rfl] at hw169_1)
   (try rw [Addr.add_zero'] at hw169_1)
   have hw169_0 := hx169_0
   (try rw [show ((0 : Int)).toNat = 0 from rfl] at hw169_0)
   (try rw [show 0 * 2 = 0 from rfl] at hw169_0)
   (try rw [Addr.add_zero'] at hw169_0)
   cases e169
   have qi169 : (0 < l0_3.length) = True := eq_true (by omega)
   (try rw [show ((0 : Int)).toNat = 0 from rfl] at hx169_0)
   (try rw [show 0 * 2 = 0 from rfl] at hx169_0)
   (try rw [Addr.add_zero'] at hx169_0)
   (try rw [show ((0 : Int)).toNat = 0 from rfl] at hx169_1)
   (try rw [show 0 * 2 = 0 from rfl] at hx169_1)
   (try rw [Addr.add_zero'] at hx169_1)
   replace hx169_0 := (HB.out.cell (World.block_lt_of_cell? w _ hx169_0)).trans hx169_0
   replace hx169_1 := (HB.out.cell (World.block_lt_of_cell? w _ hx169_1)).trans hx169_1
   replace p169 := eq_true p169
   replace q169 := eq_true q169
   have p170 : 0 ≤ ((ji4) : Int) := of_decide_eq_true xa
   have q170 : (ji4) < (l0_3.length : Int) := of_decide_eq_true xa
   obtain ⟨ad170, e170, hx170_0, hx170_1⟩ := at_T42 HR0_3.out (ji4) p170 q170
   have hw170_1 := hx170_1
   have hw170_0 := hx170_0
   obtain rfl : ad169 = ad170 := (by injection e170)
   replace hx170_0 := (HB.out.cell (World.block_lt_of_cell? w _ hx170_0)).trans hx170_0
   replace hx170_1 := (HB.out.cell (World.block_lt_of_cell? w _ hx170_1)).trans hx170_1
   replace p170 := eq_true p170
   replace q170 := eq_true q170
   refine start_ (n := 16) (S := fun w' => w'.cell? ⟨gb167, 0, none⟩ = some (.int .i64 a0_0) ∧ w'.cell? ⟨gb167, 1, none⟩ = some (.bool a0_1) ∧ w'.cell? ⟨gb167, 2, none⟩ = some (.bool a0_2) ∧ w'.cell? ⟨gb167, 3, none⟩ = some (.slice (some ad169) l0_3.length c0_3) ∧ w'.cell? ad169 = some (.int .i64 ((rd_T42 l0_3 0).f0)) ∧ w'.cell? ⟨ad169.block, ad169.off + 1, none⟩ = some (.int .i64 ((rd_T42 l0_3 0).f1)) ∧ w'.cell? (ad169.add (((ji4)).toNat * 2)) = some (.int .i64 ((rd_T42 l0_3 (ji4)).f0)) ∧ w'.cell? ⟨(ad169.add (((ji4)).toNat * 2)).block, (ad169.add (((ji4)).toNat * 2)).off + 1, none⟩ = some (.int .i64 ((rd_T42 l0_3 (ji4)).f1))) (ds := []) #[false, false, false, false, false, false, false, false, false, false, false, false, false, false, false, false] (by kernel_rfl) rfl rfl ⟨(blk_cell BK167.out 0).trans rfl, (blk_cell BK167.out 1).trans rfl, (blk_cell BK167.out 2).trans rfl, (blk_cell BK167.out 3).trans rfl, ((HB.out.cell (World.block_lt_of_cell? w _ hw169_0)).trans hw169_0), ((HB.out.cell (World.block_lt_of_cell? w _ hw169_1)).trans hw169_1), ((HB.out.cell (World.block_lt_of_cell? w _ hw170_0)).trans hw170_0), ((HB.out.cell (World.block_lt_of_cell? w _ hw170_1)).trans hw170_1)⟩ (fun hHeld => ?_); refine with_tabW fan_curve.tab1 fan_curve.bits1 (fun HT_ HW_ => ?_)
   generalize w9.drew = w10 at BK167 BK168 HB hx169_0 hx169_1 hx170_0 hx170_1 hHeld ⊢
   refine pure_ (i := 0) (N := some 8) (v := ?_) (a' := ?_) #[true, false, false, false, false, false, false, false, false, false, false, false, false, false, false, false] rfl rfl (any_of HT_.out (by kernel_rfl)) (fun _ _ _ h => h) (Or.inl ⟨by rfl, ?_⟩) ?_ ?_
   rotate_left
   ·
    intro w'
    go_simp
    with_reducible rfl
   rotate_left
   ·
    simp only [Act.put, List.setIfInBounds_toArray, List.set_cons_zero, List.set_cons_succ, i64_w, i32_w]
    rfl
   refine pure_ (i := 4) (N := some 12) (v := ?_) (a' := ?_) #[true, false, false, false, true, false, false, false, false, false, false, false, false, false, false, false] rfl rfl (any_of HT_.out (by kernel_rfl)) (fun _ _ _ h => h) (Or.inl ⟨by rfl, ?_⟩) ?_ ?_
   rotate_left
   ·
    intro w'
    go_simp
    with_reducible rfl
   rotate_left
   ·
    simp only [Act.put, List.setIfInBounds_toArray, List.set_cons_zero, List.set_cons_succ, i64_w, i32_w]
    rfl
   refine pure_ (i := 6) (N := some 14) (v := ?_) (a' := ?_) #[true, false, false, false, true, false, true, false, false, false, false, false, false, false, false, false] rfl rfl (any_of HT_.out (by kernel_rfl)) (fun _ _ _ h => h) (Or.inl ⟨by rfl, ?_⟩) ?_ ?_
   rotate_left
   ·
    intro w'
    go_simp
    with_reducible rfl
   rotate_left
   ·
    simp only [Act.put, List.setIfInBounds_toArray, List.set_cons_zero, List.set_cons_succ, i64_w, i32_w]
    rfl
   refine take_ (i := 1) (N := some 9) (v := ?_) (a' := ?_) #[true, true, false, false, true, false, true, false, false, false, false, false, false, false, false, false] rfl rfl (take_ofW HT_.out HW_.out (by kernel_rfl)) (fun _ _ _ h => h) (Or.inl ⟨by rfl, ?_⟩) hHeld ?_ ?_
   rotate_left
   ·
    rintro w' ⟨s0, s1, s2, s3, s4, s5, s6, s7⟩
    go_simp
    with_reducible rfl
   rotate_left
   ·
    simp only [Act.put, List.setIfInBounds_toArray, List.set_cons_zero, List.set_cons_succ, i64_w, i32_w]
    rfl
   refine pure_ (i := 2) (N := some 10) (v := ?_) (a' := ?_) #[true, true, true, false, true, false, true, false, false, false, false, false, false, false, false, false] rfl rfl (any_of HT_.out (by kernel_rfl)) (fun _ _ _ h => h) (Or.inl ⟨by rfl, ?_⟩) ?_ ?_
   rotate_left
   ·
    intro w'
    go_simp
    with_reducible rfl
   rotate_left
   ·
    simp only [Act.put, List.setIfInBounds_toArray, List.set_cons_zero, List.set_cons_succ, i64_w, i32_w]
    rfl
   refine take_ (i := 3) (N := some 11) (v := ?_) (a' := ?_) #[true, true, true, true, true, false, true, false, false, false, false, false, false, false, false, false] rfl rfl (take_ofW HT_.out HW_.out (by kernel_rfl)) (fun _ _ _ h => h) (Or.inl ⟨by rfl, ?_⟩) hHeld ?_ ?_
   rotate_left
   ·
    rintro w' ⟨s0, s1, s2, s3, s4, s5, s6, s7⟩
    go_simp
    with_reducible rfl
   rotate_left
   ·
    simp only [Act.put, List.setIfInBounds_toArray, List.set_cons_zero, List.set_cons_succ, i64_w, i32_w]
    rfl
   refine take_ (i := 5) (N := some 13) (v := ?_) (a' := ?_) #[true, true, true, true, true, true, true, false, false, false, false, false, false, false, false, false] rfl rfl (take_ofW HT_.out HW_.out (by kernel_rfl)) (fun _ _ _ h => h) (Or.inl ⟨by rfl, ?_⟩) hHeld ?_ ?_
   rotate_left
   ·
    rintro w' ⟨s0, s1, s2, s3, s4, s5, s6, s7⟩
    go_simp
    with_reducible rfl
   rotate_left
   ·
    simp only [Act.put, List.setIfInBounds_toArray, List.set_cons_zero, List.set_cons_succ, i64_w, i32_w]
    rfl
   refine take_ (i := 7) (N := some 15) (v := ?_) (a' := ?_) #[true, true, true, true, true, true, true, true, false, false, false, false, false, false, false, false] rfl rfl (take_ofW HT_.out HW_.out (by kernel_rfl)) (fun _ _ _ h => h) (Or.inl ⟨by rfl, ?_⟩) hHeld ?_ ?_
   rotate_left
   ·
    rintro w' ⟨s0, s1, s2, s3, s4, s5, s6, s7⟩
    go_simp
    with_reducible rfl
   rotate_left
   ·
    simp only [Act.put, List.setIfInBounds_toArray, List.set_cons_zero, List.set_cons_succ, i64_w, i32_w]
    rfl
   refine pure_ (i := 8) (N := some 16) (v := ?_) (a' := ?_) #[true, true, true, true, true, true, true, true, true, false, false, false, false, false, false, false] rfl rfl (any_of HT_.out (by kernel_rfl)) (fun _ _ _ h => h) (Or.inl ⟨by rfl, ?_⟩) ?_ ?_
   rotate_left
   ·
    intro w'
    go_simp
    with_reducible rfl
   rotate_left
   ·
    simp only [Act.put, List.setIfInBounds_toArray, List.set_cons_zero, List.set_cons_succ, i64_w, i32_w]
    rfl
   refine pure_ (i := 9) (N := some 17) (v := ?_) (a' := ?_) #[true, true, true, true, true, true, true, true, true, true, false, false, false, false, false, false] rfl rfl (any_of HT_.out (by kernel_rfl)) (fun _ _ _ h => h) (Or.inl ⟨by rfl, ?_⟩) ?_ ?_
   rotate_left
   ·
    intro w'
    go_simp
    with_reducible rfl
   rotate_left
   ·
    simp only [Act.put, List.setIfInBounds_toArray, List.set_cons_zero, List.set_cons_succ, i64_w, i32_w]
    rfl
   refine pure_ (i := 10) (N := some 18) (v := ?_) (a' := ?_) #[true, true, true, true, true, true, true, true, true, true, true, false, false, false, false, false] rfl rfl (any_of HT_.out (by kernel_rfl)) (fun _ _ _ h => h) (Or.inl ⟨by rfl, ?_⟩) ?_ ?_
   rotate_left
   ·
    intro w'
    go_simp
    with_reducible rfl
   rotate_left
   ·
    simp only [Act.put, List.setIfInBounds_toArray, List.set_cons_zero, List.set_cons_succ, i64_w, i32_w]
    rfl
   refine take_ (i := 11) (N := some 19) (v := ?_) (a' := ?_) #[true, true, true, true, true, true, true, true, true, true, true, true, false, false, false, false] rfl rfl (take_ofW HT_.out HW_.out (by kernel_rfl)) (fun _ _ _ h => h) (Or.inl ⟨by rfl, ?_⟩) hHeld ?_ ?_
   rotate_left
   ·
    rintro w' ⟨s0, s1, s2, s3, s4, s5, s6, s7⟩
    go_simp
    with_reducible rfl
   rotate_left
   ·
    simp only [Act.put, List.setIfInBounds_toArray, List.set_cons_zero, List.set_cons_succ, i64_w, i32_w]
    rfl
   refine join_ (σ := Nat × Nat) 2 #[true, true, true, true, true, true, true, true, true, true, true, true, true, true, false, false] (fun s_ => [(5, .pointer (some ⟨s_.1, 0, none⟩)), (6, .pointer (some ⟨s_.2, 0, none⟩))]) (fun s_ w' => (w'.cell? ⟨gb167, 0, none⟩ = some (.int .i64 a0_0) ∧ w'.cell? ⟨gb167, 1, none⟩ = some (.bool a0_1) ∧ w'.cell? ⟨gb167, 2, none⟩ = some (.bool a0_2) ∧ w'.cell? ⟨gb167, 3, none⟩ = some (.slice (some ad169) l0_3.length c0_3) ∧ w'.cell? ad169 = some (.int .i64 ((rd_T42 l0_3 0).f0)) ∧ w'.cell? ⟨ad169.block, ad169.off + 1, none⟩ = some (.int .i64 ((rd_T42 l0_3 0).f1)) ∧ w'.cell? (ad169.add (((ji4)).toNat * 2)) = some (.int .i64 ((rd_T42 l0_3 (ji4)).f0)) ∧ w'.cell? ⟨(ad169.add (((ji4)).toNat * 2)).block, (ad169.add (((ji4)).toNat * 2)).off + 1, none⟩ = some (.int .i64 ((rd_T42 l0_3 (ji4)).f1))) ∧ (w'.heap[gb167]? = some (.cells #[.int .i64 a0_0, .bool a0_1, .bool a0_2, .slice (some ad169) l0_3.length c0_3] 25 (0, 0))) ∧ (w'.heap[gb168]? = some (.cells #[.int .i64 0, .int .i64 0] 34 (0, 0))) ∧ (w'.heap[s_.1]? = some (.cells #[.int .i64 0, .int .i64 0] 42 (0, 0))) ∧ (w'.heap[s_.2]? = some (.cells #[.int .i64 0, .int .i64 0] 42 (0, 0))) ∧ (w.heap.size ≤ s_.1) ∧ (w.heap.size ≤ s_.1) ∧ (gb167 ≠ s_.1) ∧ (s_.1 ≠ gb167) ∧ (gb168 ≠ s_.1) ∧ (s_.1 ≠ gb168) ∧ (s_.2 ≠ s_.1) ∧ (s_.1 ≠ s_.2) ∧ (w.heap.size ≤ s_.2) ∧ (w.heap.size ≤ s_.2) ∧ (gb167 ≠ s_.2) ∧ (s_.2 ≠ gb167) ∧ (gb168 ≠ s_.2) ∧ (s_.2 ≠ gb168) ∧ (Below w.heap.size w w')) ?_ ?_
   rotate_left
   ·
    intro hCont
    refine two_ (i := 12) (j := 13) (Ni := some 5) (Nj := some 6) #[true, true, true, true, true, true, true, true, true, true, true, true, true, false, false, false] #[true, true, true, true, true, true, true, true, true, true, true, true, false, true, false, false] rfl rfl rfl rfl (two_of HT_.out (by kernel_rfl)) (by decide) (by decide) (fun K hK => ?_) (fun K hK => ?_)
    ·
     skip
     refine box_step ?hg (N := 5) ?hd (cs := #[.int .i64 0, .int .i64 0]) (t := 42) ?hr ?_; (case hd => rfl); (case hg => rfl); (case hr => first | (go_simp; done) | (go_simp; rfl))
     intro gb171 hg w11 hbox hb
     have n0_ := am (xw BK167 hb)
     have n1_ := am (xw BK168 hb)
     have n2_ := am (below_step (xh HB) hb)
     have n3_ := am (hbox)
     have n4_ := am (xs hg HB)
     have n5_ := am (xs hg HB)
     have n6_ := am (xnl hg BK167)
     have n7_ := am (xng hg BK167)
     have n8_ := am (xnl hg BK168)
     have n9_ := am (xng hg BK168)
     clear BK167
     clear BK168
     clear HB
     have BK167 := n0_
     have BK168 := n1_
     have HB := n2_
     have BK171 := n3_
     have GW171 := n4_
     have GE171 := n5_
     have NB167_171 := n6_
     have NB171_167 := n7_
     have NB168_171 := n8_
     have NB171_168 := n9_
     clear n0_ n1_ n2_ n3_ n4_ n5_ n6_ n7_ n8_ n9_
     clear hb hbox hg
     refine hK.out _ _ ⟨(blk_cell BK167.out 0).trans rfl, (blk_cell BK167.out 1).trans rfl, (blk_cell BK167.out 2).trans rfl, (blk_cell BK167.out 3).trans rfl, ((HB.out.cell (World.block_lt_of_cell? w _ hw169_0)).trans hw169_0), ((HB.out.cell (World.block_lt_of_cell? w _ hw169_1)).trans hw169_1), ((HB.out.cell (World.block_lt_of_cell? w _ hw170_0)).trans hw170_0), ((HB.out.cell (World.block_lt_of_cell? w _ hw170_1)).trans hw170_1)⟩ (fun hHeld => ?_)
     clear hK K
     refine norm_ (a' := ?_) ?_ ?_
     rotate_left
     ·
      show Act.put _ (some 5) _ = _
      simp only [Act.put, List.setIfInBounds_toArray, List.set_cons_zero, List.set_cons_succ, i64_w, i32_w]
      rfl
     refine one_ (i := 13) (N := some 6) #[true, true, true, true, true, true, true, true, true, true, true, true, true, true, false, false] rfl rfl (one_of HT_.out (by kernel_rfl)) (by decide) (fun K hK => ?_)
     refine box_step ?hg (N := 6) ?hd (cs := #[.int .i64 0, .int .i64 0]) (t := 42) ?hr ?_; (case hd => rfl); (case hg => rfl); (case hr => first | (go_simp; done) | (go_simp; rfl))
     intro gb172 hg w12 hbox hb
     have n0_ := am (xw BK167 hb)
     have n1_ := am (xw BK168 hb)
     have n2_ := am (xw BK171 hb)
     have n3_ := am (below_step (xh HB) hb)
     have n4_ := am (hbox)
     have n5_ := am (xs hg HB)
     have n6_ := am (xs hg HB)
     have n7_ := am (xnl hg BK167)
     have n8_ := am (xng hg BK167)
     have n9_ := am (xnl hg BK168)
     have n10_ := am (xng hg BK168)
     have n11_ := am (xnl hg BK171)
     have n12_ := am (xng hg BK171)
     clear BK167
     clear BK168
     clear BK171
     clear HB
     have BK167 := n0_
     have BK168 := n1_
     have BK171 := n2_
     have HB := n3_
     have BK172 := n4_
     have GW172 := n5_
     have GE172 := n6_
     have NB167_172 := n7_
     have NB172_167 := n8_
     have NB168_172 := n9_
     have NB172_168 := n10_
     have NB171_172 := n11_
     have NB172_171 := n12_
     clear n0_ n1_ n2_ n3_ n4_ n5_ n6_ n7_ n8_ n9_ n10_ n11_ n12_
     clear hb hbox hg
     refine hK.out _ _ ⟨(blk_cell BK167.out 0).trans rfl, (blk_cell BK167.out 1).trans rfl, (blk_cell BK167.out 2).trans rfl, (blk_cell BK167.out 3).trans rfl, ((HB.out.cell (World.block_lt_of_cell? w _ hw169_0)).trans hw169_0), ((HB.out.cell (World.block_lt_of_cell? w _ hw169_1)).trans hw169_1), ((HB.out.cell (World.block_lt_of_cell? w _ hw170_0)).trans hw170_0), ((HB.out.cell (World.block_lt_of_cell? w _ hw170_1)).trans hw170_1)⟩ (fun hHeld => ?_)
     clear hK K
     refine norm_ (a' := ?_) ?_ ?_
     rotate_left
     ·
      show Act.put _ (some 6) _ = _
      simp only [Act.put, List.setIfInBounds_toArray, List.set_cons_zero, List.set_cons_succ, i64_w, i32_w]
      rfl
     exact norm_ (by simp only [putAll, Act.put, List.setIfInBounds_toArray, List.set_cons_zero, List.set_cons_succ]) (hCont (gb171, gb172) _ ⟨hHeld, (xb BK167), (xb BK168), (xb BK171), (xb BK172), GW171.out, GE171.out, NB167_171.out, NB171_167.out, NB168_171.out, NB171_168.out, NB172_171.out, NB171_172.out, GW172.out, GE172.out, NB167_172.out, NB172_167.out, NB168_172.out, NB172_168.out, (xh HB)⟩)
    ·
     skip
     refine box_step ?hg (N := 6) ?hd (cs := #[.int .i64 0, .int .i64 0]) (t := 42) ?hr ?_; (case hd => rfl); (case hg => rfl); (case hr => first | (go_simp; done) | (go_simp; rfl))
     intro gb172 hg w11 hbox hb
     have n0_ := am (xw BK167 hb)
     have n1_ := am (xw BK168 hb)
     have n2_ := am (below_step (xh HB) hb)
     have n3_ := am (hbox)
     have n4_ := am (xs hg HB)
     have n5_ := am (xs hg HB)
     have n6_ := am (xnl hg BK167)
     have n7_ := am (xng hg BK167)
     have n8_ := am (xnl hg BK168)
     have n9_ := am (xng hg BK168)
     clear BK167
     clear BK168
     clear HB
     have BK167 := n0_
     have BK168 := n1_
     have HB := n2_
     have BK172 := n3_
     have GW172 := n4_
     have GE172 := n5_
     have NB167_172 := n6_
     have NB172_167 := n7_
     have NB168_172 := n8_
     have NB172_168 := n9_
     clear n0_ n1_ n2_ n3_ n4_ n5_ n6_ n7_ n8_ n9_
     clear hb hbox hg
     refine hK.out _ _ ⟨(blk_cell BK167.out 0).trans rfl, (blk_cell BK167.out 1).trans rfl, (blk_cell BK167.out 2).trans rfl, (blk_cell BK167.out 3).trans rfl, ((HB.out.cell (World.block_lt_of_cell? w _ hw169_0)).trans hw169_0), ((HB.out.cell (World.block_lt_of_cell? w _ hw169_1)).trans hw169_1), ((HB.out.cell (World.block_lt_of_cell? w _ hw170_0)).trans hw170_0), ((HB.out.cell (World.block_lt_of_cell? w _ hw170_1)).trans hw170_1)⟩ (fun hHeld => ?_)
     clear hK K
     refine norm_ (a' := ?_) ?_ ?_
     rotate_left
     ·
      show Act.put _ (some 6) _ = _
      simp only [Act.put, List.setIfInBounds_toArray, List.set_cons_zero, List.set_cons_succ, i64_w, i32_w]
      rfl
     refine one_ (i := 12) (N := some 5) #[true, true, true, true, true, true, true, true, true, true, true, true, true, true, false, false] rfl rfl (one_of HT_.out (by kernel_rfl)) (by decide) (fun K hK => ?_)
     refine box_step ?hg (N := 5) ?hd (cs := #[.int .i64 0, .int .i64 0]) (t := 42) ?hr ?_; (case hd => rfl); (case hg => rfl); (case hr => first | (go_simp; done) | (go_simp; rfl))
     intro gb171 hg w12 hbox hb
     have n0_ := am (xw BK167 hb)
     have n1_ := am (xw BK168 hb)
     have n2_ := am (xw BK172 hb)
     have n3_ := am (below_step (xh HB) hb)
     have n4_ := am (hbox)
     have n5_ := am (xs hg HB)
     have n6_ := am (xs hg HB)
     have n7_ := am (xnl hg BK167)
     have n8_ := am (xng hg BK167)
     have n9_ := am (xnl hg BK168)
     have n10_ := am (xng hg BK168)
     have n11_ := am (xnl hg BK172)
     have n12_ := am (xng hg BK172)
     clear BK167
     clear BK168
     clear BK172
     clear HB
     have BK167 := n0_
     have BK168 := n1_
     have BK172 := n2_
     have HB := n3_
     have BK171 := n4_
     have GW171 := n5_
     have GE171 := n6_
     have NB167_171 := n7_
     have NB171_167 := n8_
     have NB168_171 := n9_
     have NB171_168 := n10_
     have NB172_171 := n11_
     have NB171_172 := n12_
     clear n0_ n1_ n2_ n3_ n4_ n5_ n6_ n7_ n8_ n9_ n10_ n11_ n12_
     clear hb hbox hg
     refine hK.out _ _ ⟨(blk_cell BK167.out 0).trans rfl, (blk_cell BK167.out 1).trans rfl, (blk_cell BK167.out 2).trans rfl, (blk_cell BK167.out 3).trans rfl, ((HB.out.cell (World.block_lt_of_cell? w _ hw169_0)).trans hw169_0), ((HB.out.cell (World.block_lt_of_cell? w _ hw169_1)).trans hw169_1), ((HB.out.cell (World.block_lt_of_cell? w _ hw170_0)).trans hw170_0), ((HB.out.cell (World.block_lt_of_cell? w _ hw170_1)).trans hw170_1)⟩ (fun hHeld => ?_)
     clear hK K
     refine norm_ (a' := ?_) ?_ ?_
     rotate_left
     ·
      show Act.put _ (some 5) _ = _
      simp only [Act.put, List.setIfInBounds_toArray, List.set_cons_zero, List.set_cons_succ, i64_w, i32_w]
      rfl
     exact norm_ (by simp only [putAll, Act.put, List.setIfInBounds_toArray, List.set_cons_zero, List.set_cons_succ]) (hCont (gb171, gb172) _ ⟨hHeld, (xb BK167), (xb BK168), (xb BK171), (xb BK172), GW171.out, GE171.out, NB167_171.out, NB171_167.out, NB168_171.out, NB171_168.out, NB172_171.out, NB171_172.out, GW172.out, GE172.out, NB167_172.out, NB172_167.out, NB168_172.out, NB172_168.out, (xh HB)⟩)
   rintro ⟨gb171, gb172⟩ w13 ⟨hS_, h0_, h1_, h2_, h3_, h4_, h5_, h6_, h7_, h8_, h9_, h10_, h11_, h12_, h13_, h14_, h15_, h16_, h17_, h18_⟩
   have n0_ : Aside0 (w13.heap[gb167]? = some (.cells #[.int .i64 a0_0, .bool a0_1, .bool a0_2, .slice (some ad169) l0_3.length c0_3] 25 (0, 0))) := ⟨h0_⟩
   have n1_ : Aside0 (w13.heap[gb168]? = some (.cells #[.int .i64 0, .int .i64 0] 34 (0, 0))) := ⟨h1_⟩
   have n2_ : Aside0 (w13.heap[gb171]? = some (.cells #[.int .i64 0, .int .i64 0] 42 (0, 0))) := ⟨h2_⟩
   have n3_ : Aside0 (w13.heap[gb172]? = some (.cells #[.int .i64 0, .int .i64 0] 42 (0, 0))) := ⟨h3_⟩
   have n4_ : Aside0 (w.heap.size ≤ gb171) := ⟨h4_⟩
   have n5_ : Aside0 (w.heap.size ≤ gb171) := ⟨h5_⟩
   have n6_ : Aside0 (gb167 ≠ gb171) := ⟨h6_⟩
   have n7_ : Aside0 (gb171 ≠ gb167) := ⟨h7_⟩
   have n8_ : Aside0 (gb168 ≠ gb171) := ⟨h8_⟩
   have n9_ : Aside0 (gb171 ≠ gb168) := ⟨h9_⟩
   have n10_ : Aside0 (gb172 ≠ gb171) := ⟨h10_⟩
   have n11_ : Aside0 (gb171 ≠ gb172) := ⟨h11_⟩
   have n12_ : Aside0 (w.heap.size ≤ gb172) := ⟨h12_⟩
   have n13_ : Aside0 (w.heap.size ≤ gb172) := ⟨h13_⟩
   have n14_ : Aside0 (gb167 ≠ gb172) := ⟨h14_⟩
   have n15_ : Aside0 (gb172 ≠ gb167) := ⟨h15_⟩
   have n16_ : Aside0 (gb168 ≠ gb172) := ⟨h16_⟩
   have n17_ : Aside0 (gb172 ≠ gb168) := ⟨h17_⟩
   have n18_ : Aside0 (Below w.heap.size w w13) := ⟨h18_⟩
   clear BK167
   clear BK168
   clear HB
   clear h0_ h1_ h2_ h3_ h4_ h5_ h6_ h7_ h8_ h9_ h10_ h11_ h12_ h13_ h14_ h15_ h16_ h17_ h18_
   have BK167 := n0_
   have BK168 := n1_
   have BK171 := n2_
   have BK172 := n3_
   have GW171 := n4_
   have GE171 := n5_
   have NB167_171 := n6_
   have NB171_167 := n7_
   have NB168_171 := n8_
   have NB171_168 := n9_
   have NB172_171 := n10_
   have NB171_172 := n11_
   have GW172 := n12_
   have GE172 := n13_
   have NB167_172 := n14_
   have NB172_167 := n15_
   have NB168_172 := n16_
   have NB172_168 := n17_
   have HB := n18_
   clear n0_ n1_ n2_ n3_ n4_ n5_ n6_ n7_ n8_ n9_ n10_ n11_ n12_ n13_ n14_ n15_ n16_ n17_ n18_
   have hHeld : w13.cell? ⟨gb167, 0, none⟩ = some (.int .i64 a0_0) ∧ w13.cell? ⟨gb167, 1, none⟩ = some (.bool a0_1) ∧ w13.cell? ⟨gb167, 2, none⟩ = some (.bool a0_2) ∧ w13.cell? ⟨gb167, 3, none⟩ = some (.slice (some ad169) l0_3.length c0_3) ∧ w13.cell? ad169 = some (.int .i64 ((rd_T42 l0_3 0).f0)) ∧ w13.cell? ⟨ad169.block, ad169.off + 1, none⟩ = some (.int .i64 ((rd_T42 l0_3 0).f1)) ∧ w13.cell? (ad169.add (((ji4)).toNat * 2)) = some (.int .i64 ((rd_T42 l0_3 (ji4)).f0)) ∧ w13.cell? ⟨(ad169.add (((ji4)).toNat * 2)).block, (ad169.add (((ji4)).toNat * 2)).off + 1, none⟩ = some (.int .i64 ((rd_T42 l0_3 (ji4)).f1)) := hS_
   refine norm_ (a' := ?_) ?_ ?_
   rotate_left
   ·
    simp only [putAll, Act.put, List.setIfInBounds_toArray, List.set_cons_zero, List.set_cons_succ]
    rfl
   refine one_ (i := 14) (N := none) #[true, true, true, true, true, true, true, true, true, true, true, true, true, true, true, false] rfl rfl (one_of HT_.out (by kernel_rfl)) (by decide) (fun K hK => ?_)
   have hs14 : w13.cell? ⟨gb171, 0, none⟩ = some (.int .i64 0) := (blk_cell BK171.out 0).trans rfl
   have hfs14 := blk_frozen BK171.out 0
   have hns14_0 := NB167_171.out
   have hns14_1 := NB168_171.out
   have hns14_3 := NB172_171.out
   have hms14_0 := NB171_167.out
   have hms14_1 := NB171_168.out
   have hms14_3 := NB171_172.out
   have hs15 : w13.cell? ⟨gb171, 1, none⟩ = some (.int .i64 0) := (blk_cell BK171.out 1).trans rfl
   have hfs15 := blk_frozen BK171.out 1
   have hns15_0 := NB167_171.out
   have hns15_1 := NB168_171.out
   have hns15_3 := NB172_171.out
   have hms15_0 := NB171_167.out
   have hms15_1 := NB171_168.out
   have hms15_3 := NB171_172.out
   refine skip_ (w1 := ?_) (by rfl) rfl ?_ ?_
   rotate_left
   ·
    go_simp
    rfl
   refine hK.out _ _ ⟨((cell_far (p := ⟨gb171, _, none⟩) NB167_171.out _).trans (((cell_far (p := ⟨gb171, _, none⟩) NB167_171.out _).trans (hHeld.1)))), ((cell_far (p := ⟨gb171, _, none⟩) NB167_171.out _).trans (((cell_far (p := ⟨gb171, _, none⟩) NB167_171.out _).trans (hHeld.2.1)))), ((cell_far (p := ⟨gb171, _, none⟩) NB167_171.out _).trans (((cell_far (p := ⟨gb171, _, none⟩) NB167_171.out _).trans (hHeld.2.2.1)))), ((cell_far (p := ⟨gb171, _, none⟩) NB167_171.out _).trans (((cell_far (p := ⟨gb171, _, none⟩) NB167_171.out _).trans (hHeld.2.2.2.1)))), ((cell_far (p := ⟨gb171, _, none⟩) (by first | exact Nat.ne_of_lt (Nat.lt_of_lt_of_le (by have := World.block_lt_of_cell? _ _ hw169_0; first | rwa [add_block] at this | exact this) GW171.out) | (rw [add_block]; exact Nat.ne_of_lt (Nat.lt_of_lt_of_le (by have := World.block_lt_of_cell? _ _ hw169_0; first | rwa [add_block] at this | exact this) GW171.out)) | (show (Addr.add _ _).block ≠ _; rw [add_block]; exact Nat.ne_of_lt (Nat.lt_of_lt_of_le (by have := World.block_lt_of_cell? _ _ hw169_0; first | rwa [add_block] at this | exact this) GW171.out)) | (dsimp only; exact Nat.ne_of_lt (Nat.lt_of_lt_of_le (by have := World.block_lt_of_cell? _ _ hw169_0; first | rwa [add_block] at this | exact this) GW171.out))) _).trans (((cell_far (p := ⟨gb171, _, none⟩) (by first | exact Nat.ne_of_lt (Nat.lt_of_lt_of_le (by have := World.block_lt_of_cell? _ _ hw169_0; first | rwa [add_block] at this | exact this) GW171.out) | (rw [add_block]; exact Nat.ne_of_lt (Nat.lt_of_lt_of_le (by have := World.block_lt_of_cell? _ _ hw169_0; first | rwa [add_block] at this | exact this) GW171.out)) | (show (Addr.add _ _).block ≠ _; rw [add_block]; exact Nat.ne_of_lt (Nat.lt_of_lt_of_le (by have := World.block_lt_of_cell? _ _ hw169_0; first | rwa [add_block] at this | exact this) GW171.out)) | (dsimp only; exact Nat.ne_of_lt (Nat.lt_of_lt_of_le (by have := World.block_lt_of_cell? _ _ hw169_0; first | rwa [add_block] at this | exact this) GW171.out))) _).trans (hHeld.2.2.2.2.1)))), ((cell_far (p := ⟨gb171, _, none⟩) (by first | exact Nat.ne_of_lt (Nat.lt_of_lt_of_le (by have := World.block_lt_of_cell? _ _ hw169_1; first | rwa [add_block] at this | exact this) GW171.out) | (rw [add_block]; exact Nat.ne_of_lt (Nat.lt_of_lt_of_le (by have := World.block_lt_of_cell? _ _ hw169_1; first | rwa [add_block] at this | exact this) GW171.out)) | (show (Addr.add _ _).block ≠ _; rw [add_block]; exact Nat.ne_of_lt (Nat.lt_of_lt_of_le (by have := World.block_lt_of_cell? _ _ hw169_1; first | rwa [add_block] at this | exact this) GW171.out)) | (dsimp only; exact Nat.ne_of_lt (Nat.lt_of_lt_of_le (by have := World.block_lt_of_cell? _ _ hw169_1; first | rwa [add_block] at this | exact this) GW171.out))) _).trans (((cell_far (p := ⟨gb171, _, none⟩) (by first | exact Nat.ne_of_lt (Nat.lt_of_lt_of_le (by have := World.block_lt_of_cell? _ _ hw169_1; first | rwa [add_block] at this | exact this) GW171.out) | (rw [add_block]; exact Nat.ne_of_lt (Nat.lt_of_lt_of_le (by have := World.block_lt_of_cell? _ _ hw169_1; first | rwa [add_block] at this | exact this) GW171.out)) | (show (Addr.add _ _).block ≠ _; rw [add_block]; exact Nat.ne_of_lt (Nat.lt_of_lt_of_le (by have := World.block_lt_of_cell? _ _ hw169_1; first | rwa [add_block] at this | exact this) GW171.out)) | (dsimp only; exact Nat.ne_of_lt (Nat.lt_of_lt_of_le (by have := World.block_lt_of_cell? _ _ hw169_1; first | rwa [add_block] at this | exact this) GW171.out))) _).trans (hHeld.2.2.2.2.2.1)))), ((cell_far (p := ⟨gb171, _, none⟩) (by first | exact Nat.ne_of_lt (Nat.lt_of_lt_of_le (by have := World.block_lt_of_cell? _ _ hw170_0; first | rwa [add_block] at this | exact this) GW171.out) | (rw [add_block]; exact Nat.ne_of_lt (Nat.lt_of_lt_of_le (by have := World.block_lt_of_cell? _ _ hw170_0; first | rwa [add_block] at this | exact this) GW171.out)) | (show (Addr.add _ _).block ≠ _; rw [add_block]; exact Nat.ne_of_lt (Nat.lt_of_lt_of_le (by have := World.block_lt_of_cell? _ _ hw170_0; first | rwa [add_block] at this | exact this) GW171.out)) | (dsimp only; exact Nat.ne_of_lt (Nat.lt_of_lt_of_le (by have := World.block_lt_of_cell? _ _ hw170_0; first | rwa [add_block] at this | exact this) GW171.out))) _).trans (((cell_far (p := ⟨gb171, _, none⟩) (by first | exact Nat.ne_of_lt (Nat.lt_of_lt_of_le (by have := World.block_lt_of_cell? _ _ hw170_0; first | rwa [add_block] at this | exact this) GW171.out) | (rw [add_block]; exact Nat.ne_of_lt (Nat.lt_of_lt_of_le (by have := World.block_lt_of_cell? _ _ hw170_0; first | rwa [add_block] at this | exact this) GW171.out)) | (show (Addr.add _ _).block ≠ _; rw [add_block]; exact Nat.ne_of_lt (Nat.lt_of_lt_of_le (by have := World.block_lt_of_cell? _ _ hw170_0; first | rwa [add_block] at this | exact this) GW171.out)) | (dsimp only; exact Nat.ne_of_lt (Nat.lt_of_lt_of_le (by have := World.block_lt_of_cell? _ _ hw170_0; first | rwa [add_block] at this | exact this) GW171.out))) _).trans (hHeld.2.2.2.2.2.2.1)))), ((cell_far (p := ⟨gb171, _, none⟩) (by first | exact Nat.ne_of_lt (Nat.lt_of_lt_of_le (by have := World.block_lt_of_cell? _ _ hw170_1; first | rwa [add_block] at this | exact this) GW171.out) | (rw [add_block]; exact Nat.ne_of_lt (Nat.lt_of_lt_of_le (by have := World.block_lt_of_cell? _ _ hw170_1; first | rwa [add_block] at this | exact this) GW171.out)) | (show (Addr.add _ _).block ≠ _; rw [add_block]; exact Nat.ne_of_lt (Nat.lt_of_lt_of_le (by have := World.block_lt_of_cell? _ _ hw170_1; first | rwa [add_block] at this | exact this) GW171.out)) | (dsimp only; exact Nat.ne_of_lt (Nat.lt_of_lt_of_le (by have := World.block_lt_of_cell? _ _ hw170_1; first | rwa [add_block] at this | exact this) GW171.out))) _).trans (((cell_far (p := ⟨gb171, _, none⟩) (by first | exact Nat.ne_of_lt (Nat.lt_of_lt_of_le (by have := World.block_lt_of_cell? _ _ hw170_1; first | rwa [add_block] at this | exact this) GW171.out) | (rw [add_block]; exact Nat.ne_of_lt (Nat.lt_of_lt_of_le (by have := World.block_lt_of_cell? _ _ hw170_1; first | rwa [add_block] at this | exact this) GW171.out)) | (show (Addr.add _ _).block ≠ _; rw [add_block]; exact Nat.ne_of_lt (Nat.lt_of_lt_of_le (by have := World.block_lt_of_cell? _ _ hw170_1; first | rwa [add_block] at this | exact this) GW171.out)) | (dsimp only; exact Nat.ne_of_lt (Nat.lt_of_lt_of_le (by have := World.block_lt_of_cell? _ _ hw170_1; first | rwa [add_block] at this | exact this) GW171.out))) _).trans (hHeld.2.2.2.2.2.2.2))))⟩ (fun hHeld => ?_)
   clear hK K
   refine one_ (i := 15) (N := none) #[true, true, true, true, true, true, true, true, true, true, true, true, true, true, true, true] rfl rfl (one_of HT_.out (by kernel_rfl)) (by decide) (fun K hK => ?_)
   have hs16 : w13.cell? ⟨gb172, 0, none⟩ = some (.int .i64 0) := (blk_cell BK172.out 0).trans rfl
   have hfs16 := blk_frozen BK172.out 0
   have hns16_0 := NB167_172.out
   have hns16_1 := NB168_172.out
   have hns16_2 := NB171_172.out
   have hms16_0 := NB172_167.out
   have hms16_1 := NB172_168.out
   have hms16_2 := NB172_171.out
   have hs17 : w13.cell? ⟨gb172, 1, none⟩ = some (.int .i64 0) := (blk_cell BK172.out 1).trans rfl
   have hfs17 := blk_frozen BK172.out 1
   have hns17_0 := NB167_172.out
   have hns17_1 := NB168_172.out
   have hns17_2 := NB171_172.out
   have hms17_0 := NB172_167.out
   have hms17_1 := NB172_168.out
   have hms17_2 := NB172_171.out
   refine skip_ (w1 := ?_) (by rfl) rfl ?_ ?_
   rotate_left
   ·
    go_simp
    rfl
   refine hK.out _ _ ⟨((cell_far (p := ⟨gb172, _, none⟩) NB167_172.out _).trans (((cell_far (p := ⟨gb172, _, none⟩) NB167_172.out _).trans (hHeld.1)))), ((cell_far (p := ⟨gb172, _, none⟩) NB167_172.out _).trans (((cell_far (p := ⟨gb172, _, none⟩) NB167_172.out _).trans (hHeld.2.1)))), ((cell_far (p := ⟨gb172, _, none⟩) NB167_172.out _).trans (((cell_far (p := ⟨gb172, _, none⟩) NB167_172.out _).trans (hHeld.2.2.1)))), ((cell_far (p := ⟨gb172, _, none⟩) NB167_172.out _).trans (((cell_far (p := ⟨gb172, _, none⟩) NB167_172.out _).trans (hHeld.2.2.2.1)))), ((cell_far (p := ⟨gb172, _, none⟩) (by first | exact Nat.ne_of_lt (Nat.lt_of_lt_of_le (by have := World.block_lt_of_cell? _ _ hw169_0; first | rwa [add_block] at this | exact this) GW172.out) | (rw [add_block]; exact Nat.ne_of_lt (Nat.lt_of_lt_of_le (by have := World.block_lt_of_cell? _ _ hw169_0; first | rwa [add_block] at this | exact this) GW172.out)) | (show (Addr.add _ _).block ≠ _; rw [add_block]; exact Nat.ne_of_lt (Nat.lt_of_lt_of_le (by have := World.block_lt_of_cell? _ _ hw169_0; first | rwa [add_block] at this | exact this) GW172.out)) | (dsimp only; exact Nat.ne_of_lt (Nat.lt_of_lt_of_le (by have := World.block_lt_of_cell? _ _ hw169_0; first | rwa [add_block] at this | exact this) GW172.out))) _).trans (((cell_far (p := ⟨gb172, _, none⟩) (by first | exact Nat.ne_of_lt (Nat.lt_of_lt_of_le (by have := World.block_lt_of_cell? _ _ hw169_0; first | rwa [add_block] at this | exact this) GW172.out) | (rw [add_block]; exact Nat.ne_of_lt (Nat.lt_of_lt_of_le (by have := World.block_lt_of_cell? _ _ hw169_0; first | rwa [add_block] at this | exact this) GW172.out)) | (show (Addr.add _ _).block ≠ _; rw [add_block]; exact Nat.ne_of_lt (Nat.lt_of_lt_of_le (by have := World.block_lt_of_cell? _ _ hw169_0; first | rwa [add_block] at this | exact this) GW172.out)) | (dsimp only; exact Nat.ne_of_lt (Nat.lt_of_lt_of_le (by have := World.block_lt_of_cell? _ _ hw169_0; first | rwa [add_block] at this | exact this) GW172.out))) _).trans (hHeld.2.2.2.2.1)))), ((cell_far (p := ⟨gb172, _, none⟩) (by first | exact Nat.ne_of_lt (Nat.lt_of_lt_of_le (by have := World.block_lt_of_cell? _ _ hw169_1; first | rwa [add_block] at this | exact this) GW172.out) | (rw [add_block]; exact Nat.ne_of_lt (Nat.lt_of_lt_of_le (by have := World.block_lt_of_cell? _ _ hw169_1; first | rwa [add_block] at this | exact this) GW172.out)) | (show (Addr.add _ _).block ≠ _; rw [add_block]; exact Nat.ne_of_lt (Nat.lt_of_lt_of_le (by have := World.block_lt_of_cell? _ _ hw169_1; first | rwa [add_block] at this | exact this) GW172.out)) | (dsimp only; exact Nat.ne_of_lt (Nat.lt_of_lt_of_le (by have := World.block_lt_of_cell? _ _ hw169_1; first | rwa [add_block] at this | exact this) GW172.out))) _).trans (((cell_far (p := ⟨gb172, _, none⟩) (by first | exact Nat.ne_of_lt (Nat.lt_of_lt_of_le (by have := World.block_lt_of_cell? _ _ hw169_1; first | rwa [add_block] at this | exact this) GW172.out) | (rw [add_block]; exact Nat.ne_of_lt (Nat.lt_of_lt_of_le (by have := World.block_lt_of_cell? _ _ hw169_1; first | rwa [add_block] at this | exact this) GW172.out)) | (show (Addr.add _ _).block ≠ _; rw [add_block]; exact Nat.ne_of_lt (Nat.lt_of_lt_of_le (by have := World.block_lt_of_cell? _ _ hw169_1; first | rwa [add_block] at this | exact this) GW172.out)) | (dsimp only; exact Nat.ne_of_lt (Nat.lt_of_lt_of_le (by have := World.block_lt_of_cell? _ _ hw169_1; first | rwa [add_block] at this | exact this) GW172.out))) _).trans (hHeld.2.2.2.2.2.1)))), ((cell_far (p := ⟨gb172, _, none⟩) (by first | exact Nat.ne_of_lt (Nat.lt_of_lt_of_le (by have := World.block_lt_of_cell? _ _ hw170_0; first | rwa [add_block] at this | exact this) GW172.out) | (rw [add_block]; exact Nat.ne_of_lt (Nat.lt_of_lt_of_le (by have := World.block_lt_of_cell? _ _ hw170_0; first | rwa [add_block] at this | exact this) GW172.out)) | (show (Addr.add _ _).block ≠ _; rw [add_block]; exact Nat.ne_of_lt (Nat.lt_of_lt_of_le (by have := World.block_lt_of_cell? _ _ hw170_0; first | rwa [add_block] at this | exact this) GW172.out)) | (dsimp only; exact Nat.ne_of_lt (Nat.lt_of_lt_of_le (by have := World.block_lt_of_cell? _ _ hw170_0; first | rwa [add_block] at this | exact this) GW172.out))) _).trans (((cell_far (p := ⟨gb172, _, none⟩) (by first | exact Nat.ne_of_lt (Nat.lt_of_lt_of_le (by have := World.block_lt_of_cell? _ _ hw170_0; first | rwa [add_block] at this | exact this) GW172.out) | (rw [add_block]; exact Nat.ne_of_lt (Nat.lt_of_lt_of_le (by have := World.block_lt_of_cell? _ _ hw170_0; first | rwa [add_block] at this | exact this) GW172.out)) | (show (Addr.add _ _).block ≠ _; rw [add_block]; exact Nat.ne_of_lt (Nat.lt_of_lt_of_le (by have := World.block_lt_of_cell? _ _ hw170_0; first | rwa [add_block] at this | exact this) GW172.out)) | (dsimp only; exact Nat.ne_of_lt (Nat.lt_of_lt_of_le (by have := World.block_lt_of_cell? _ _ hw170_0; first | rwa [add_block] at this | exact this) GW172.out))) _).trans (hHeld.2.2.2.2.2.2.1)))), ((cell_far (p := ⟨gb172, _, none⟩) (by first | exact Nat.ne_of_lt (Nat.lt_of_lt_of_le (by have := World.block_lt_of_cell? _ _ hw170_1; first | rwa [add_block] at this | exact this) GW172.out) | (rw [add_block]; exact Nat.ne_of_lt (Nat.lt_of_lt_of_le (by have := World.block_lt_of_cell? _ _ hw170_1; first | rwa [add_block] at this | exact this) GW172.out)) | (show (Addr.add _ _).block ≠ _; rw [add_block]; exact Nat.ne_of_lt (Nat.lt_of_lt_of_le (by have := World.block_lt_of_cell? _ _ hw170_1; first | rwa [add_block] at this | exact this) GW172.out)) | (dsimp only; exact Nat.ne_of_lt (Nat.lt_of_lt_of_le (by have := World.block_lt_of_cell? _ _ hw170_1; first | rwa [add_block] at this | exact this) GW172.out))) _).trans (((cell_far (p := ⟨gb172, _, none⟩) (by first | exact Nat.ne_of_lt (Nat.lt_of_lt_of_le (by have := World.block_lt_of_cell? _ _ hw170_1; first | rwa [add_block] at this | exact this) GW172.out) | (rw [add_block]; exact Nat.ne_of_lt (Nat.lt_of_lt_of_le (by have := World.block_lt_of_cell? _ _ hw170_1; first | rwa [add_block] at this | exact this) GW172.out)) | (show (Addr.add _ _).block ≠ _; rw [add_block]; exact Nat.ne_of_lt (Nat.lt_of_lt_of_le (by have := World.block_lt_of_cell? _ _ hw170_1; first | rwa [add_block] at this | exact this) GW172.out)) | (dsimp only; exact Nat.ne_of_lt (Nat.lt_of_lt_of_le (by have := World.block_lt_of_cell? _ _ hw170_1; first | rwa [add_block] at this | exact this) GW172.out))) _).trans (hHeld.2.2.2.2.2.2.2))))⟩ (fun hHeld => ?_)
   clear hK K
   refine done_ (done_of HT_.out (by kernel_rfl)) ?_
   have hnb18 := NB171_167.out
   have hnc18 := NB167_171.out
   have hnb19 := NB171_168.out
   have hnc19 := NB168_171.out
   have hnb20 := NB171_172.out
   have hnc20 := NB172_171.out
   have hcz21_0 : w13.cell? ⟨gb171, 0, none⟩ = some (.int .i64 0) := (blk_cell BK171.out 0).trans rfl
   have hcz21_1 : w13.cell? ⟨gb171, 1, none⟩ = some (.int .i64 0) := (blk_cell BK171.out 1).trans rfl
   have hfz21_0 := blk_frozen BK171.out 0
   have hfz21_1 := blk_frozen BK171.out 1
   have hnb22 := NB168_167.out
   have hnc22 := NB167_168.out
   have hnb23 := NB168_172.out
   have hnc23 := NB172_168.out
   have hcz24_0 : w13.cell? ⟨gb168, 0, none⟩ = some (.int .i64 0) := (blk_cell BK168.out 0).trans rfl
   have hcz24_1 : w13.cell? ⟨gb168, 1, none⟩ = some (.int .i64 0) := (blk_cell BK168.out 1).trans rfl
   have hfz24_0 := blk_frozen BK168.out 0
   have hfz24_1 := blk_frozen BK168.out 1
   try go_wp2
   refine bodyPost_ret (results_cell_row rfl _ _ gb168 34 #[.int .i64 ((rd_T42 l0_3 0).f1), .int .i64 ((rd_T42 l0_3 0).f1)] (0, 0) _ rfl (by (with_reducible repeat (first | refine blk_drewN ?_ _ | refine blk_drew ?_ | refine blk_alloc ?_ _)); refine blk_put (cs := #[.int .i64 ((rd_T42 l0_3 0).f1), .int .i64 0]) ?_ 1 _ rfl; (with_reducible repeat (first | refine blk_drewN ?_ _ | refine blk_drew ?_ | refine blk_alloc ?_ _)); refine blk_put (cs := #[.int .i64 0, .int .i64 0]) ?_ 0 _ rfl; (with_reducible repeat (first | refine blk_drewN ?_ _ | refine blk_drew ?_ | refine blk_alloc ?_ _)); refine blk_far ?_ NB168_172.out _; (with_reducible repeat (first | refine blk_drewN ?_ _ | refine blk_drew ?_ | refine blk_alloc ?_ _)); refine blk_far ?_ NB168_172.out _; (with_reducible repeat (first | refine blk_drewN ?_ _ | refine blk_drew ?_ | refine blk_alloc ?_ _)); refine blk_far ?_ NB168_171.out _; (with_reducible repeat (first | refine blk_drewN ?_ _ | refine blk_drew ?_ | refine blk_alloc ?_ _)); refine blk_far ?_ NB168_171.out _; (with_reducible repeat (first | refine blk_drewN ?_ _ | refine blk_drew ?_ | refine blk_alloc ?_ _)); exact BK168.out) Try.underlying34 rfl (by kernel_rfl)) rfl ?_
   exact ⟨by first | rfl | (simp [errW_none, errW_some] <;> rfl) | (simp only [← hji4]; first | rfl | (simp [errW_none, errW_some] <;> rfl)) | (simp [*, errW_none, errW_some] <;> rfl), xh HB⟩
  ·
   rw [if_neg c7] at H
   have c7b0 : decide (a1 ≤ ((rd_T42 l0_3 0).f0)) = false := decide_eq_false c7
   clear c7
   have H' := am H
   clear H
   go_enter Try.func22, Try.ntmps22
   try go_wp2_with (first | ((with_reducible refine gate_dst (N := 2) rfl ?_); refine xbox 2 (cs := #[.int .i64 a0_0, .bool a0_1, .bool a0_2, .slice A0_3 l0_3.length c0_3]) (t := 25) ?_; intro gb167 hg w25 hbox hb; have n0_ := am (below_step (xh HB) hb); have n1_ := am (hbox); have n2_ := am (xs hg HB); have n3_ := am (xs hg HB); clear HB; have HB := n0_; have BK167 := n1_; have GW167 := n2_; have GE167 := n3_; clear n0_ n1_ n2_ n3_; clear hb hbox hg) | ((with_reducible refine gate_dst (N := 4) rfl ?_); refine xbox 4 (cs := #[.int .i64 0, .int .i64 0]) (t := 34) ?_; intro gb168 hg w26 hbox hb; have n0_ := am (xw BK167 hb); have n1_ := am (below_step (xh HB) hb); have n2_ := am (hbox); have n3_ := am (xs hg HB); have n4_ := am (xs hg HB); have n5_ := am (xnl hg BK167); have n6_ := am (xng hg BK167); clear BK167; clear HB; have BK167 := n0_; have HB := n1_; have BK168 := n2_; have GW168 := n3_; have GE168 := n4_; have NB167_168 := n5_; have NB168_167 := n6_; clear n0_ n1_ n2_ n3_ n4_ n5_ n6_; clear hb hbox hg))
   have n0_ := am (blk_drew BK167.out)
   have n1_ := am (blk_drew BK168.out)
   have n2_ := am (below_drew1 HB.out)
   clear BK167
   clear BK168
   clear HB
   have BK167 := n0_
   have BK168 := n1_
   have HB := n2_
   clear n0_ n1_ n2_
   have p169 : 0 ≤ (0 : Int) := (by omega)
   have q169 : 0 < (l0_3.length : Int) := of_decide_eq_true xa
   obtain ⟨ad169, e169, hx169_0, hx169_1⟩ := at_T42 HR0_3.out 0 p169 q169
   have hw169_1 := hx169_1
   (try rw [show ((0 : Int)).toNat = 0 from rfl] at hw169_1)
   (try rw [show 0 * 2 = 0 from rfl] at hw169_1)
   (try rw [Addr.add_zero'] at hw169_1)
   have hw169_0 := hx169_0
   (try rw [show ((0 : Int)).toNat = 0 from rfl] at hw169_0)
   (try rw [show 0 * 2 = 0 from rfl] at hw169_0)
   (try rw [Addr.add_zero'] at hw169_0)
   cases e169
   have qi169 : (0 < l0_3.length) = True := eq_true (by omega)
   (try rw [show ((0 : Int)).toNat = 0 from rfl] at hx169_0)
   (try rw [show 0 * 2 = 0 from rfl] at hx169_0)
   (try rw [Addr.add_zero'] at hx169_0)
   (try rw [show ((0 : Int)).toNat = 0 from rfl] at hx169_1)
   (try rw [show 0 * 2 = 0 from rfl] at hx169_1)
   (try rw [Addr.add_zero'] at hx169_1)
   replace hx169_0 := (HB.out.cell (World.block_lt_of_cell? w _ hx169_0)).trans hx169_0
   replace hx169_1 := (HB.out.cell (World.block_lt_of_cell? w _ hx169_1)).trans hx169_1
   replace p169 := eq_true p169
   replace q169 := eq_true q169
   have p170 : 0 ≤ ((ji4) : Int) := of_decide_eq_true xa
   have q170 : (ji4) < (l0_3.length : Int) := of_decide_eq_true xa
   obtain ⟨ad170, e170, hx170_0, hx170_1⟩ := at_T42 HR0_3.out (ji4) p170 q170
   have hw170_1 := hx170_1
   have hw170_0 := hx170_0
   obtain rfl : ad169 = ad170 := (by injection e170)
   replace hx170_0 := (HB.out.cell (World.block_lt_of_cell? w _ hx170_0)).trans hx170_0
   replace hx170_1 := (HB.out.cell (World.block_lt_of_cell? w _ hx170_1)).trans hx170_1
   replace p170 := eq_true p170
   replace q170 := eq_true q170
   refine start_ (n := 16) (S := fun w' => w'.cell? ⟨gb167, 0, none⟩ = some (.int .i64 a0_0) ∧ w'.cell? ⟨gb167, 1, none⟩ = some (.bool a0_1) ∧ w'.cell? ⟨gb167, 2, none⟩ = some (.bool a0_2) ∧ w'.cell? ⟨gb167, 3, none⟩ = some (.slice (some ad169) l0_3.length c0_3) ∧ w'.cell? ad169 = some (.int .i64 ((rd_T42 l0_3 0).f0)) ∧ w'.cell? ⟨ad169.block, ad169.off + 1, none⟩ = some (.int .i64 ((rd_T42 l0_3 0).f1)) ∧ w'.cell? (ad169.add (((ji4)).toNat * 2)) = some (.int .i64 ((rd_T42 l0_3 (ji4)).f0)) ∧ w'.cell? ⟨(ad169.add (((ji4)).toNat * 2)).block, (ad169.add (((ji4)).toNat * 2)).off + 1, none⟩ = some (.int .i64 ((rd_T42 l0_3 (ji4)).f1))) (ds := []) #[false, false, false, false, false, false, false, false, false, false, false, false, false, false, false, false] (by kernel_rfl) rfl rfl ⟨(blk_cell BK167.out 0).trans rfl, (blk_cell BK167.out 1).trans rfl, (blk_cell BK167.out 2).trans rfl, (blk_cell BK167.out 3).trans rfl, ((HB.out.cell (World.block_lt_of_cell? w _ hw169_0)).trans hw169_0), ((HB.out.cell (World.block_lt_of_cell? w _ hw169_1)).trans hw169_1), ((HB.out.cell (World.block_lt_of_cell? w _ hw170_0)).trans hw170_0), ((HB.out.cell (World.block_lt_of_cell? w _ hw170_1)).trans hw170_1)⟩ (fun hHeld => ?_); refine with_tabW fan_curve.tab1 fan_curve.bits1 (fun HT_ HW_ => ?_)
   generalize w26.drew = w27 at BK167 BK168 HB hx169_0 hx169_1 hx170_0 hx170_1 hHeld ⊢
   refine pure_ (i := 0) (N := some 8) (v := ?_) (a' := ?_) #[true, false, false, false, false, false, false, false, false, false, false, false, false, false, false, false] rfl rfl (any_of HT_.out (by kernel_rfl)) (fun _ _ _ h => h) (Or.inl ⟨by rfl, ?_⟩) ?_ ?_
   rotate_left
   ·
    intro w'
    go_simp
    with_reducible rfl
   rotate_left
   ·
    simp only [Act.put, List.setIfInBounds_toArray, List.set_cons_zero, List.set_cons_succ, i64_w, i32_w]
    rfl
   refine pure_ (i := 4) (N := some 12) (v := ?_) (a' := ?_) #[true, false, false, false, true, false, false, false, false, false, false, false, false, false, false, false] rfl rfl (any_of HT_.out (by kernel_rfl)) (fun _ _ _ h => h) (Or.inl ⟨by rfl, ?_⟩) ?_ ?_
   rotate_left
   ·
    intro w'
    go_simp
    with_reducible rfl
   rotate_left
   ·
    simp only [Act.put, List.setIfInBounds_toArray, List.set_cons_zero, List.set_cons_succ, i64_w, i32_w]
    rfl
   refine pure_ (i := 6) (N := some 14) (v := ?_) (a' := ?_) #[true, false, false, false, true, false, true, false, false, false, false, false, false, false, false, false] rfl rfl (any_of HT_.out (by kernel_rfl)) (fun _ _ _ h => h) (Or.inl ⟨by rfl, ?_⟩) ?_ ?_
   rotate_left
   ·
    intro w'
    go_simp
    with_reducible rfl
   rotate_left
   ·
    simp only [Act.put, List.setIfInBounds_toArray, List.set_cons_zero, List.set_cons_succ, i64_w, i32_w]
    rfl
   refine take_ (i := 1) (N := some 9) (v := ?_) (a' := ?_) #[true, true, false, false, true, false, true, false, false, false, false, false, false, false, false, false] rfl rfl (take_ofW HT_.out HW_.out (by kernel_rfl)) (fun _ _ _ h => h) (Or.inl ⟨by rfl, ?_⟩) hHeld ?_ ?_
   rotate_left
   ·
    rintro w' ⟨s0, s1, s2, s3, s4, s5, s6, s7⟩
    go_simp
    with_reducible rfl
   rotate_left
   ·
    simp only [Act.put, List.setIfInBounds_toArray, List.set_cons_zero, List.set_cons_succ, i64_w, i32_w]
    rfl
   refine pure_ (i := 2) (N := some 10) (v := ?_) (a' := ?_) #[true, true, true, false, true, false, true, false, false, false, false, false, false, false, false, false] rfl rfl (any_of HT_.out (by kernel_rfl)) (fun _ _ _ h => h) (Or.inl ⟨by rfl, ?_⟩) ?_ ?_
   rotate_left
   ·
    intro w'
    go_simp
    with_reducible rfl
   rotate_left
   ·
    simp only [Act.put, List.setIfInBounds_toArray, List.set_cons_zero, List.set_cons_succ, i64_w, i32_w]
    rfl
   refine take_ (i := 3) (N := some 11) (v := ?_) (a' := ?_) #[true, true, true, true, true, false, true, false, false, false, false, false, false, false, false, false] rfl rfl (take_ofW HT_.out HW_.out (by kernel_rfl)) (fun _ _ _ h => h) (Or.inl ⟨by rfl, ?_⟩) hHeld ?_ ?_
   rotate_left
   ·
    rintro w' ⟨s0, s1, s2, s3, s4, s5, s6, s7⟩
    go_simp
    with_reducible rfl
   rotate_left
   ·
    simp only [Act.put, List.setIfInBounds_toArray, List.set_cons_zero, List.set_cons_succ, i64_w, i32_w]
    rfl
   refine take_ (i := 5) (N := some 13) (v := ?_) (a' := ?_) #[true, true, true, true, true, true, true, false, false, false, false, false, false, false, false, false] rfl rfl (take_ofW HT_.out HW_.out (by kernel_rfl)) (fun _ _ _ h => h) (Or.inl ⟨by rfl, ?_⟩) hHeld ?_ ?_
   rotate_left
   ·
    rintro w' ⟨s0, s1, s2, s3, s4, s5, s6, s7⟩
    go_simp
    with_reducible rfl
   rotate_left
   ·
    simp only [Act.put, List.setIfInBounds_toArray, List.set_cons_zero, List.set_cons_succ, i64_w, i32_w]
    rfl
   refine take_ (i := 7) (N := some 15) (v := ?_) (a' := ?_) #[true, true, true, true, true, true, true, true, false, false, false, false, false, false, false, false] rfl rfl (take_ofW HT_.out HW_.out (by kernel_rfl)) (fun _ _ _ h => h) (Or.inl ⟨by rfl, ?_⟩) hHeld ?_ ?_
   rotate_left
   ·
    rintro w' ⟨s0, s1, s2, s3, s4, s5, s6, s7⟩
    go_simp
    with_reducible rfl
   rotate_left
   ·
    simp only [Act.put, List.setIfInBounds_toArray, List.set_cons_zero, List.set_cons_succ, i64_w, i32_w]
    rfl
   refine pure_ (i := 8) (N := some 16) (v := ?_) (a' := ?_) #[true, true, true, true, true, true, true, true, true, false, false, false, false, false, false, false] rfl rfl (any_of HT_.out (by kernel_rfl)) (fun _ _ _ h => h) (Or.inl ⟨by rfl, ?_⟩) ?_ ?_
   rotate_left
   ·
    intro w'
    go_simp
    with_reducible rfl
   rotate_left
   ·
    simp only [Act.put, List.setIfInBounds_toArray, List.set_cons_zero, List.set_cons_succ, i64_w, i32_w]
    rfl
   refine pure_ (i := 9) (N := some 17) (v := ?_) (a' := ?_) #[true, true, true, true, true, true, true, true, true, true, false, false, false, false, false, false] rfl rfl (any_of HT_.out (by kernel_rfl)) (fun _ _ _ h => h) (Or.inl ⟨by rfl, ?_⟩) ?_ ?_
   rotate_left
   ·
    intro w'
    go_simp
    with_reducible rfl
   rotate_left
   ·
    simp only [Act.put, List.setIfInBounds_toArray, List.set_cons_zero, List.set_cons_succ, i64_w, i32_w]
    rfl
   refine pure_ (i := 10) (N := some 18) (v := ?_) (a' := ?_) #[true, true, true, true, true, true, true, true, true, true, true, false, false, false, false, false] rfl rfl (any_of HT_.out (by kernel_rfl)) (fun _ _ _ h => h) (Or.inl ⟨by rfl, ?_⟩) ?_ ?_
   rotate_left
   ·
    intro w'
    go_simp
    with_reducible rfl
   rotate_left
   ·
    simp only [Act.put, List.setIfInBounds_toArray, List.set_cons_zero, List.set_cons_succ, i64_w, i32_w]
    rfl
   refine take_ (i := 11) (N := some 19) (v := ?_) (a' := ?_) #[true, true, true, true, true, true, true, true, true, true, true, true, false, false, false, false] rfl rfl (take_ofW HT_.out HW_.out (by kernel_rfl)) (fun _ _ _ h => h) (Or.inl ⟨by rfl, ?_⟩) hHeld ?_ ?_
   rotate_left
   ·
    rintro w' ⟨s0, s1, s2, s3, s4, s5, s6, s7⟩
    go_simp
    with_reducible rfl
   rotate_left
   ·
    simp only [Act.put, List.setIfInBounds_toArray, List.set_cons_zero, List.set_cons_succ, i64_w, i32_w]
    rfl
   refine join_ (σ := Nat × Nat) 2 #[true, true, true, true, true, true, true, true, true, true, true, true, true, true, false, false] (fun s_ => [(5, .pointer (some ⟨s_.1, 0, none⟩)), (6, .pointer (some ⟨s_.2, 0, none⟩))]) (fun s_ w' => (w'.cell? ⟨gb167, 0, none⟩ = some (.int .i64 a0_0) ∧ w'.cell? ⟨gb167, 1, none⟩ = some (.bool a0_1) ∧ w'.cell? ⟨gb167, 2, none⟩ = some (.bool a0_2) ∧ w'.cell? ⟨gb167, 3, none⟩ = some (.slice (some ad169) l0_3.length c0_3) ∧ w'.cell? ad169 = some (.int .i64 ((rd_T42 l0_3 0).f0)) ∧ w'.cell? ⟨ad169.block, ad169.off + 1, none⟩ = some (.int .i64 ((rd_T42 l0_3 0).f1)) ∧ w'.cell? (ad169.add (((ji4)).toNat * 2)) = some (.int .i64 ((rd_T42 l0_3 (ji4)).f0)) ∧ w'.cell? ⟨(ad169.add (((ji4)).toNat * 2)).block, (ad169.add (((ji4)).toNat * 2)).off + 1, none⟩ = some (.int .i64 ((rd_T42 l0_3 (ji4)).f1))) ∧ (w'.heap[gb167]? = some (.cells #[.int .i64 a0_0, .bool a0_1, .bool a0_2, .slice (some ad169) l0_3.length c0_3] 25 (0, 0))) ∧ (w'.heap[gb168]? = some (.cells #[.int .i64 0, .int .i64 0] 34 (0, 0))) ∧ (w'.heap[s_.1]? = some (.cells #[.int .i64 0, .int .i64 0] 42 (0, 0))) ∧ (w'.heap[s_.2]? = some (.cells #[.int .i64 0, .int .i64 0] 42 (0, 0))) ∧ (w.heap.size ≤ s_.1) ∧ (w.heap.size ≤ s_.1) ∧ (gb167 ≠ s_.1) ∧ (s_.1 ≠ gb167) ∧ (gb168 ≠ s_.1) ∧ (s_.1 ≠ gb168) ∧ (s_.2 ≠ s_.1) ∧ (s_.1 ≠ s_.2) ∧ (w.heap.size ≤ s_.2) ∧ (w.heap.size ≤ s_.2) ∧ (gb167 ≠ s_.2) ∧ (s_.2 ≠ gb167) ∧ (gb168 ≠ s_.2) ∧ (s_.2 ≠ gb168) ∧ (Below w.heap.size w w')) ?_ ?_
   rotate_left
   ·
    intro hCont
    refine two_ (i := 12) (j := 13) (Ni := some 5) (Nj := some 6) #[true, true, true, true, true, true, true, true, true, true, true, true, true, false, false, false] #[true, true, true, true, true, true, true, true, true, true, true, true, false, true, false, false] rfl rfl rfl rfl (two_of HT_.out (by kernel_rfl)) (by decide) (by decide) (fun K hK => ?_) (fun K hK => ?_)
    ·
     skip
     refine box_step ?hg (N := 5) ?hd (cs := #[.int .i64 0, .int .i64 0]) (t := 42) ?hr ?_; (case hd => rfl); (case hg => rfl); (case hr => first | (go_simp; done) | (go_simp; rfl))
     intro gb171 hg w28 hbox hb
     have n0_ := am (xw BK167 hb)
     have n1_ := am (xw BK168 hb)
     have n2_ := am (below_step (xh HB) hb)
     have n3_ := am (hbox)
     have n4_ := am (xs hg HB)
     have n5_ := am (xs hg HB)
     have n6_ := am (xnl hg BK167)
     have n7_ := am (xng hg BK167)
     have n8_ := am (xnl hg BK168)
     have n9_ := am (xng hg BK168)
     clear BK167
     clear BK168
     clear HB
     have BK167 := n0_
     have BK168 := n1_
     have HB := n2_
     have BK171 := n3_
     have GW171 := n4_
     have GE171 := n5_
     have NB167_171 := n6_
     have NB171_167 := n7_
     have NB168_171 := n8_
     have NB171_168 := n9_
     clear n0_ n1_ n2_ n3_ n4_ n5_ n6_ n7_ n8_ n9_
     clear hb hbox hg
     refine hK.out _ _ ⟨(blk_cell BK167.out 0).trans rfl, (blk_cell BK167.out 1).trans rfl, (blk_cell BK167.out 2).trans rfl, (blk_cell BK167.out 3).trans rfl, ((HB.out.cell (World.block_lt_of_cell? w _ hw169_0)).trans hw169_0), ((HB.out.cell (World.block_lt_of_cell? w _ hw169_1)).trans hw169_1), ((HB.out.cell (World.block_lt_of_cell? w _ hw170_0)).trans hw170_0), ((HB.out.cell (World.block_lt_of_cell? w _ hw170_1)).trans hw170_1)⟩ (fun hHeld => ?_)
     clear hK K
     refine norm_ (a' := ?_) ?_ ?_
     rotate_left
     ·
      show Act.put _ (some 5) _ = _
      simp only [Act.put, List.setIfInBounds_toArray, List.set_cons_zero, List.set_cons_succ, i64_w, i32_w]
      rfl
     refine one_ (i := 13) (N := some 6) #[true, true, true, true, true, true, true, true, true, true, true, true, true, true, false, false] rfl rfl (one_of HT_.out (by kernel_rfl)) (by decide) (fun K hK => ?_)
     refine box_step ?hg (N := 6) ?hd (cs := #[.int .i64 0, .int .i64 0]) (t := 42) ?hr ?_; (case hd => rfl); (case hg => rfl); (case hr => first | (go_simp; done) | (go_simp; rfl))
     intro gb172 hg w29 hbox hb
     have n0_ := am (xw BK167 hb)
     have n1_ := am (xw BK168 hb)
     have n2_ := am (xw BK171 hb)
     have n3_ := am (below_step (xh HB) hb)
     have n4_ := am (hbox)
     have n5_ := am (xs hg HB)
     have n6_ := am (xs hg HB)
     have n7_ := am (xnl hg BK167)
     have n8_ := am (xng hg BK167)
     have n9_ := am (xnl hg BK168)
     have n10_ := am (xng hg BK168)
     have n11_ := am (xnl hg BK171)
     have n12_ := am (xng hg BK171)
     clear BK167
     clear BK168
     clear BK171
     clear HB
     have BK167 := n0_
     have BK168 := n1_
     have BK171 := n2_
     have HB := n3_
     have BK172 := n4_
     have GW172 := n5_
     have GE172 := n6_
     have NB167_172 := n7_
     have NB172_167 := n8_
     have NB168_172 := n9_
     have NB172_168 := n10_
     have NB171_172 := n11_
     have NB172_171 := n12_
     clear n0_ n1_ n2_ n3_ n4_ n5_ n6_ n7_ n8_ n9_ n10_ n11_ n12_
     clear hb hbox hg
     refine hK.out _ _ ⟨(blk_cell BK167.out 0).trans rfl, (blk_cell BK167.out 1).trans rfl, (blk_cell BK167.out 2).trans rfl, (blk_cell BK167.out 3).trans rfl, ((HB.out.cell (World.block_lt_of_cell? w _ hw169_0)).trans hw169_0), ((HB.out.cell (World.block_lt_of_cell? w _ hw169_1)).trans hw169_1), ((HB.out.cell (World.block_lt_of_cell? w _ hw170_0)).trans hw170_0), ((HB.out.cell (World.block_lt_of_cell? w _ hw170_1)).trans hw170_1)⟩ (fun hHeld => ?_)
     clear hK K
     refine norm_ (a' := ?_) ?_ ?_
     rotate_left
     ·
      show Act.put _ (some 6) _ = _
      simp only [Act.put, List.setIfInBounds_toArray, List.set_cons_zero, List.set_cons_succ, i64_w, i32_w]
      rfl
     exact norm_ (by simp only [putAll, Act.put, List.setIfInBounds_toArray, List.set_cons_zero, List.set_cons_succ]) (hCont (gb171, gb172) _ ⟨hHeld, (xb BK167), (xb BK168), (xb BK171), (xb BK172), GW171.out, GE171.out, NB167_171.out, NB171_167.out, NB168_171.out, NB171_168.out, NB172_171.out, NB171_172.out, GW172.out, GE172.out, NB167_172.out, NB172_167.out, NB168_172.out, NB172_168.out, (xh HB)⟩)
    ·
     skip
     refine box_step ?hg (N := 6) ?hd (cs := #[.int .i64 0, .int .i64 0]) (t := 42) ?hr ?_; (case hd => rfl); (case hg => rfl); (case hr => first | (go_simp; done) | (go_simp; rfl))
     intro gb172 hg w28 hbox hb
     have n0_ := am (xw BK167 hb)
     have n1_ := am (xw BK168 hb)
     have n2_ := am (below_step (xh HB) hb)
     have n3_ := am (hbox)
     have n4_ := am (xs hg HB)
     have n5_ := am (xs hg HB)
     have n6_ := am (xnl hg BK167)
     have n7_ := am (xng hg BK167)
     have n8_ := am (xnl hg BK168)
     have n9_ := am (xng hg BK168)
     clear BK167
     clear BK168
     clear HB
     have BK167 := n0_
     have BK168 := n1_
     have HB := n2_
     have BK172 := n3_
     have GW172 := n4_
     have GE172 := n5_
     have NB167_172 := n6_
     have NB172_167 := n7_
     have NB168_172 := n8_
     have NB172_168 := n9_
     clear n0_ n1_ n2_ n3_ n4_ n5_ n6_ n7_ n8_ n9_
     clear hb hbox hg
     refine hK.out _ _ ⟨(blk_cell BK167.out 0).trans rfl, (blk_cell BK167.out 1).trans rfl, (blk_cell BK167.out 2).trans rfl, (blk_cell BK167.out 3).trans rfl, ((HB.out.cell (World.block_lt_of_cell? w _ hw169_0)).trans hw169_0), ((HB.out.cell (World.block_lt_of_cell? w _ hw169_1)).trans hw169_1), ((HB.out.cell (World.block_lt_of_cell? w _ hw170_0)).trans hw170_0), ((HB.out.cell (World.block_lt_of_cell? w _ hw170_1)).trans hw170_1)⟩ (fun hHeld => ?_)
     clear hK K
     refine norm_ (a' := ?_) ?_ ?_
     rotate_left
     ·
      show Act.put _ (some 6) _ = _
      simp only [Act.put, List.setIfInBounds_toArray, List.set_cons_zero, List.set_cons_succ, i64_w, i32_w]
      rfl
     refine one_ (i := 12) (N := some 5) #[true, true, true, true, true, true, true, true, true, true, true, true, true, true, false, false] rfl rfl (one_of HT_.out (by kernel_rfl)) (by decide) (fun K hK => ?_)
     refine box_step ?hg (N := 5) ?hd (cs := #[.int .i64 0, .int .i64 0]) (t := 42) ?hr ?_; (case hd => rfl); (case hg => rfl); (case hr => first | (go_simp; done) | (go_simp; rfl))
     intro gb171 hg w29 hbox hb
     have n0_ := am (xw BK167 hb)
     have n1_ := am (xw BK168 hb)
     have n2_ := am (xw BK172 hb)
     have n3_ := am (below_step (xh HB) hb)
     have n4_ := am (hbox)
     have n5_ := am (xs hg HB)
     have n6_ := am (xs hg HB)
     have n7_ := am (xnl hg BK167)
     have n8_ := am (xng hg BK167)
     have n9_ := am (xnl hg BK168)
     have n10_ := am (xng hg BK168)
     have n11_ := am (xnl hg BK172)
     have n12_ := am (xng hg BK172)
     clear BK167
     clear BK168
     clear BK172
     clear HB
     have BK167 := n0_
     have BK168 := n1_
     have BK172 := n2_
     have HB := n3_
     have BK171 := n4_
     have GW171 := n5_
     have GE171 := n6_
     have NB167_171 := n7_
     have NB171_167 := n8_
     have NB168_171 := n9_
     have NB171_168 := n10_
     have NB172_171 := n11_
     have NB171_172 := n12_
     clear n0_ n1_ n2_ n3_ n4_ n5_ n6_ n7_ n8_ n9_ n10_ n11_ n12_
     clear hb hbox hg
     refine hK.out _ _ ⟨(blk_cell BK167.out 0).trans rfl, (blk_cell BK167.out 1).trans rfl, (blk_cell BK167.out 2).trans rfl, (blk_cell BK167.out 3).trans rfl, ((HB.out.cell (World.block_lt_of_cell? w _ hw169_0)).trans hw169_0), ((HB.out.cell (World.block_lt_of_cell? w _ hw169_1)).trans hw169_1), ((HB.out.cell (World.block_lt_of_cell? w _ hw170_0)).trans hw170_0), ((HB.out.cell (World.block_lt_of_cell? w _ hw170_1)).trans hw170_1)⟩ (fun hHeld => ?_)
     clear hK K
     refine norm_ (a' := ?_) ?_ ?_
     rotate_left
     ·
      show Act.put _ (some 5) _ = _
      simp only [Act.put, List.setIfInBounds_toArray, List.set_cons_zero, List.set_cons_succ, i64_w, i32_w]
      rfl
     exact norm_ (by simp only [putAll, Act.put, List.setIfInBounds_toArray, List.set_cons_zero, List.set_cons_succ]) (hCont (gb171, gb172) _ ⟨hHeld, (xb BK167), (xb BK168), (xb BK171), (xb BK172), GW171.out, GE171.out, NB167_171.out, NB171_167.out, NB168_171.out, NB171_168.out, NB172_171.out, NB171_172.out, GW172.out, GE172.out, NB167_172.out, NB172_167.out, NB168_172.out, NB172_168.out, (xh HB)⟩)
   rintro ⟨gb171, gb172⟩ w30 ⟨hS_, h0_, h1_, h2_, h3_, h4_, h5_, h6_, h7_, h8_, h9_, h10_, h11_, h12_, h13_, h14_, h15_, h16_, h17_, h18_⟩
   have n0_ : Aside0 (w30.heap[gb167]? = some (.cells #[.int .i64 a0_0, .bool a0_1, .bool a0_2, .slice (some ad169) l0_3.length c0_3] 25 (0, 0))) := ⟨h0_⟩
   have n1_ : Aside0 (w30.heap[gb168]? = some (.cells #[.int .i64 0, .int .i64 0] 34 (0, 0))) := ⟨h1_⟩
   have n2_ : Aside0 (w30.heap[gb171]? = some (.cells #[.int .i64 0, .int .i64 0] 42 (0, 0))) := ⟨h2_⟩
   have n3_ : Aside0 (w30.heap[gb172]? = some (.cells #[.int .i64 0, .int .i64 0] 42 (0, 0))) := ⟨h3_⟩
   have n4_ : Aside0 (w.heap.size ≤ gb171) := ⟨h4_⟩
   have n5_ : Aside0 (w.heap.size ≤ gb171) := ⟨h5_⟩
   have n6_ : Aside0 (gb167 ≠ gb171) := ⟨h6_⟩
   have n7_ : Aside0 (gb171 ≠ gb167) := ⟨h7_⟩
   have n8_ : Aside0 (gb168 ≠ gb171) := ⟨h8_⟩
   have n9_ : Aside0 (gb171 ≠ gb168) := ⟨h9_⟩
   have n10_ : Aside0 (gb172 ≠ gb171) := ⟨h10_⟩
   have n11_ : Aside0 (gb171 ≠ gb172) := ⟨h11_⟩
   have n12_ : Aside0 (w.heap.size ≤ gb172) := ⟨h12_⟩
   have n13_ : Aside0 (w.heap.size ≤ gb172) := ⟨h13_⟩
   have n14_ : Aside0 (gb167 ≠ gb172) := ⟨h14_⟩
   have n15_ : Aside0 (gb172 ≠ gb167) := ⟨h15_⟩
   have n16_ : Aside0 (gb168 ≠ gb172) := ⟨h16_⟩
   have n17_ : Aside0 (gb172 ≠ gb168) := ⟨h17_⟩
   have n18_ : Aside0 (Below w.heap.size w w30) := ⟨h18_⟩
   clear BK167
   clear BK168
   clear HB
   clear h0_ h1_ h2_ h3_ h4_ h5_ h6_ h7_ h8_ h9_ h10_ h11_ h12_ h13_ h14_ h15_ h16_ h17_ h18_
   have BK167 := n0_
   have BK168 := n1_
   have BK171 := n2_
   have BK172 := n3_
   have GW171 := n4_
   have GE171 := n5_
   have NB167_171 := n6_
   have NB171_167 := n7_
   have NB168_171 := n8_
   have NB171_168 := n9_
   have NB172_171 := n10_
   have NB171_172 := n11_
   have GW172 := n12_
   have GE172 := n13_
   have NB167_172 := n14_
   have NB172_167 := n15_
   have NB168_172 := n16_
   have NB172_168 := n17_
   have HB := n18_
   clear n0_ n1_ n2_ n3_ n4_ n5_ n6_ n7_ n8_ n9_ n10_ n11_ n12_ n13_ n14_ n15_ n16_ n17_ n18_
   have hHeld : w30.cell? ⟨gb167, 0, none⟩ = some (.int .i64 a0_0) ∧ w30.cell? ⟨gb167, 1, none⟩ = some (.bool a0_1) ∧ w30.cell? ⟨gb167, 2, none⟩ = some (.bool a0_2) ∧ w30.cell? ⟨gb167, 3, none⟩ = some (.slice (some ad169) l0_3.length c0_3) ∧ w30.cell? ad169 = some (.int .i64 ((rd_T42 l0_3 0).f0)) ∧ w30.cell? ⟨ad169.block, ad169.off + 1, none⟩ = some (.int .i64 ((rd_T42 l0_3 0).f1)) ∧ w30.cell? (ad169.add (((ji4)).toNat * 2)) = some (.int .i64 ((rd_T42 l0_3 (ji4)).f0)) ∧ w30.cell? ⟨(ad169.add (((ji4)).toNat * 2)).block, (ad169.add (((ji4)).toNat * 2)).off + 1, none⟩ = some (.int .i64 ((rd_T42 l0_3 (ji4)).f1)) := hS_
   refine norm_ (a' := ?_) ?_ ?_
   rotate_left
   ·
    simp only [putAll, Act.put, List.setIfInBounds_toArray, List.set_cons_zero, List.set_cons_succ]
    rfl
   refine one_ (i := 14) (N := none) #[true, true, true, true, true, true, true, true, true, true, true, true, true, true, true, false] rfl rfl (one_of HT_.out (by kernel_rfl)) (by decide) (fun K hK => ?_)
   have hs31 : w30.cell? ⟨gb171, 0, none⟩ = some (.int .i64 0) := (blk_cell BK171.out 0).trans rfl
   have hfs31 := blk_frozen BK171.out 0
   have hns31_0 := NB167_171.out
   have hns31_1 := NB168_171.out
   have hns31_3 := NB172_171.out
   have hms31_0 := NB171_167.out
   have hms31_1 := NB171_168.out
   have hms31_3 := NB171_172.out
   have hs32 : w30.cell? ⟨gb171, 1, none⟩ = some (.int .i64 0) := (blk_cell BK171.out 1).trans rfl
   have hfs32 := blk_frozen BK171.out 1
   have hns32_0 := NB167_171.out
   have hns32_1 := NB168_171.out
   have hns32_3 := NB172_171.out
   have hms32_0 := NB171_167.out
   have hms32_1 := NB171_168.out
   have hms32_3 := NB171_172.out
   refine skip_ (w1 := ?_) (by rfl) rfl ?_ ?_
   rotate_left
   ·
    go_simp
    rfl
   refine hK.out _ _ ⟨((cell_far (p := ⟨gb171, _, none⟩) NB167_171.out _).trans (((cell_far (p := ⟨gb171, _, none⟩) NB167_171.out _).trans (hHeld.1)))), ((cell_far (p := ⟨gb171, _, none⟩) NB167_171.out _).trans (((cell_far (p := ⟨gb171, _, none⟩) NB167_171.out _).trans (hHeld.2.1)))), ((cell_far (p := ⟨gb171, _, none⟩) NB167_171.out _).trans (((cell_far (p := ⟨gb171, _, none⟩) NB167_171.out _).trans (hHeld.2.2.1)))), ((cell_far (p := ⟨gb171, _, none⟩) NB167_171.out _).trans (((cell_far (p := ⟨gb171, _, none⟩) NB167_171.out _).trans (hHeld.2.2.2.1)))), ((cell_far (p := ⟨gb171, _, none⟩) (by first | exact Nat.ne_of_lt (Nat.lt_of_lt_of_le (by have := World.block_lt_of_cell? _ _ hw169_0; first | rwa [add_block] at this | exact this) GW171.out) | (rw [add_block]; exact Nat.ne_of_lt (Nat.lt_of_lt_of_le (by have := World.block_lt_of_cell? _ _ hw169_0; first | rwa [add_block] at this | exact this) GW171.out)) | (show (Addr.add _ _).block ≠ _; rw [add_block]; exact Nat.ne_of_lt (Nat.lt_of_lt_of_le (by have := World.block_lt_of_cell? _ _ hw169_0; first | rwa [add_block] at this | exact this) GW171.out)) | (dsimp only; exact Nat.ne_of_lt (Nat.lt_of_lt_of_le (by have := World.block_lt_of_cell? _ _ hw169_0; first | rwa [add_block] at this | exact this) GW171.out))) _).trans (((cell_far (p := ⟨gb171, _, none⟩) (by first | exact Nat.ne_of_lt (Nat.lt_of_lt_of_le (by have := World.block_lt_of_cell? _ _ hw169_0; first | rwa [add_block] at this | exact this) GW171.out) | (rw [add_block]; exact Nat.ne_of_lt (Nat.lt_of_lt_of_le (by have := World.block_lt_of_cell? _ _ hw169_0; first | rwa [add_block] at this | exact this) GW171.out)) | (show (Addr.add _ _).block ≠ _; rw [add_block]; exact Nat.ne_of_lt (Nat.lt_of_lt_of_le (by have := World.block_lt_of_cell? _ _ hw169_0; first | rwa [add_block] at this | exact this) GW171.out)) | (dsimp only; exact Nat.ne_of_lt (Nat.lt_of_lt_of_le (by have := World.block_lt_of_cell? _ _ hw169_0; first | rwa [add_block] at this | exact this) GW171.out))) _).trans (hHeld.2.2.2.2.1)))), ((cell_far (p := ⟨gb171, _, none⟩) (by first | exact Nat.ne_of_lt (Nat.lt_of_lt_of_le (by have := World.block_lt_of_cell? _ _ hw169_1; first | rwa [add_block] at this | exact this) GW171.out) | (rw [add_block]; exact Nat.ne_of_lt (Nat.lt_of_lt_of_le (by have := World.block_lt_of_cell? _ _ hw169_1; first | rwa [add_block] at this | exact this) GW171.out)) | (show (Addr.add _ _).block ≠ _; rw [add_block]; exact Nat.ne_of_lt (Nat.lt_of_lt_of_le (by have := World.block_lt_of_cell? _ _ hw169_1; first | rwa [add_block] at this | exact this) GW171.out)) | (dsimp only; exact Nat.ne_of_lt (Nat.lt_of_lt_of_le (by have := World.block_lt_of_cell? _ _ hw169_1; first | rwa [add_block] at this | exact this) GW171.out))) _).trans (((cell_far (p := ⟨gb171, _, none⟩) (by first | exact Nat.ne_of_lt (Nat.lt_of_lt_of_le (by have := World.block_lt_of_cell? _ _ hw169_1; first | rwa [add_block] at this | exact this) GW171.out) | (rw [add_block]; exact Nat.ne_of_lt (Nat.lt_of_lt_of_le (by have := World.block_lt_of_cell? _ _ hw169_1; first | rwa [add_block] at this | exact this) GW171.out)) | (show (Addr.add _ _).block ≠ _; rw [add_block]; exact Nat.ne_of_lt (Nat.lt_of_lt_of_le (by have := World.block_lt_of_cell? _ _ hw169_1; first | rwa [add_block] at this | exact this) GW171.out)) | (dsimp only; exact Nat.ne_of_lt (Nat.lt_of_lt_of_le (by have := World.block_lt_of_cell? _ _ hw169_1; first | rwa [add_block] at this | exact this) GW171.out))) _).trans (hHeld.2.2.2.2.2.1)))), ((cell_far (p := ⟨gb171, _, none⟩) (by first | exact Nat.ne_of_lt (Nat.lt_of_lt_of_le (by have := World.block_lt_of_cell? _ _ hw170_0; first | rwa [add_block] at this | exact this) GW171.out) | (rw [add_block]; exact Nat.ne_of_lt (Nat.lt_of_lt_of_le (by have := World.block_lt_of_cell? _ _ hw170_0; first | rwa [add_block] at this | exact this) GW171.out)) | (show (Addr.add _ _).block ≠ _; rw [add_block]; exact Nat.ne_of_lt (Nat.lt_of_lt_of_le (by have := World.block_lt_of_cell? _ _ hw170_0; first | rwa [add_block] at this | exact this) GW171.out)) | (dsimp only; exact Nat.ne_of_lt (Nat.lt_of_lt_of_le (by have := World.block_lt_of_cell? _ _ hw170_0; first | rwa [add_block] at this | exact this) GW171.out))) _).trans (((cell_far (p := ⟨gb171, _, none⟩) (by first | exact Nat.ne_of_lt (Nat.lt_of_lt_of_le (by have := World.block_lt_of_cell? _ _ hw170_0; first | rwa [add_block] at this | exact this) GW171.out) | (rw [add_block]; exact Nat.ne_of_lt (Nat.lt_of_lt_of_le (by have := World.block_lt_of_cell? _ _ hw170_0; first | rwa [add_block] at this | exact this) GW171.out)) | (show (Addr.add _ _).block ≠ _; rw [add_block]; exact Nat.ne_of_lt (Nat.lt_of_lt_of_le (by have := World.block_lt_of_cell? _ _ hw170_0; first | rwa [add_block] at this | exact this) GW171.out)) | (dsimp only; exact Nat.ne_of_lt (Nat.lt_of_lt_of_le (by have := World.block_lt_of_cell? _ _ hw170_0; first | rwa [add_block] at this | exact this) GW171.out))) _).trans (hHeld.2.2.2.2.2.2.1)))), ((cell_far (p := ⟨gb171, _, none⟩) (by first | exact Nat.ne_of_lt (Nat.lt_of_lt_of_le (by have := World.block_lt_of_cell? _ _ hw170_1; first | rwa [add_block] at this | exact this) GW171.out) | (rw [add_block]; exact Nat.ne_of_lt (Nat.lt_of_lt_of_le (by have := World.block_lt_of_cell? _ _ hw170_1; first | rwa [add_block] at this | exact this) GW171.out)) | (show (Addr.add _ _).block ≠ _; rw [add_block]; exact Nat.ne_of_lt (Nat.lt_of_lt_of_le (by have := World.block_lt_of_cell? _ _ hw170_1; first | rwa [add_block] at this | exact this) GW171.out)) | (dsimp only; exact Nat.ne_of_lt (Nat.lt_of_lt_of_le (by have := World.block_lt_of_cell? _ _ hw170_1; first | rwa [add_block] at this | exact this) GW171.out))) _).trans (((cell_far (p := ⟨gb171, _, none⟩) (by first | exact Nat.ne_of_lt (Nat.lt_of_lt_of_le (by have := World.block_lt_of_cell? _ _ hw170_1; first | rwa [add_block] at this | exact this) GW171.out) | (rw [add_block]; exact Nat.ne_of_lt (Nat.lt_of_lt_of_le (by have := World.block_lt_of_cell? _ _ hw170_1; first | rwa [add_block] at this | exact this) GW171.out)) | (show (Addr.add _ _).block ≠ _; rw [add_block]; exact Nat.ne_of_lt (Nat.lt_of_lt_of_le (by have := World.block_lt_of_cell? _ _ hw170_1; first | rwa [add_block] at this | exact this) GW171.out)) | (dsimp only; exact Nat.ne_of_lt (Nat.lt_of_lt_of_le (by have := World.block_lt_of_cell? _ _ hw170_1; first | rwa [add_block] at this | exact this) GW171.out))) _).trans (hHeld.2.2.2.2.2.2.2))))⟩ (fun hHeld => ?_)
   clear hK K
   refine one_ (i := 15) (N := none) #[true, true, true, true, true, true, true, true, true, true, true, true, true, true, true, true] rfl rfl (one_of HT_.out (by kernel_rfl)) (by decide) (fun K hK => ?_)
   have hs33 : w30.cell? ⟨gb172, 0, none⟩ = some (.int .i64 0) := (blk_cell BK172.out 0).trans rfl
   have hfs33 := blk_frozen BK172.out 0
   have hns33_0 := NB167_172.out
   have hns33_1 := NB168_172.out
   have hns33_2 := NB171_172.out
   have hms33_0 := NB172_167.out
   have hms33_1 := NB172_168.out
   have hms33_2 := NB172_171.out
   have hs34 : w30.cell? ⟨gb172, 1, none⟩ = some (.int .i64 0) := (blk_cell BK172.out 1).trans rfl
   have hfs34 := blk_frozen BK172.out 1
   have hns34_0 := NB167_172.out
   have hns34_1 := NB168_172.out
   have hns34_2 := NB171_172.out
   have hms34_0 := NB172_167.out
   have hms34_1 := NB172_168.out
   have hms34_2 := NB172_171.out
   refine skip_ (w1 := ?_) (by rfl) rfl ?_ ?_
   rotate_left
   ·
    go_simp
    rfl
   refine hK.out _ _ ⟨((cell_far (p := ⟨gb172, _, none⟩) NB167_172.out _).trans (((cell_far (p := ⟨gb172, _, none⟩) NB167_172.out _).trans (hHeld.1)))), ((cell_far (p := ⟨gb172, _, none⟩) NB167_172.out _).trans (((cell_far (p := ⟨gb172, _, none⟩) NB167_172.out _).trans (hHeld.2.1)))), ((cell_far (p := ⟨gb172, _, none⟩) NB167_172.out _).trans (((cell_far (p := ⟨gb172, _, none⟩) NB167_172.out _).trans (hHeld.2.2.1)))), ((cell_far (p := ⟨gb172, _, none⟩) NB167_172.out _).trans (((cell_far (p := ⟨gb172, _, none⟩) NB167_172.out _).trans (hHeld.2.2.2.1)))), ((cell_far (p := ⟨gb172, _, none⟩) (by first | exact Nat.ne_of_lt (Nat.lt_of_lt_of_le (by have := World.block_lt_of_cell? _ _ hw169_0; first | rwa [add_block] at this | exact this) GW172.out) | (rw [add_block]; exact Nat.ne_of_lt (Nat.lt_of_lt_of_le (by have := World.block_lt_of_cell? _ _ hw169_0; first | rwa [add_block] at this | exact this) GW172.out)) | (show (Addr.add _ _).block ≠ _; rw [add_block]; exact Nat.ne_of_lt (Nat.lt_of_lt_of_le (by have := World.block_lt_of_cell? _ _ hw169_0; first | rwa [add_block] at this | exact this) GW172.out)) | (dsimp only; exact Nat.ne_of_lt (Nat.lt_of_lt_of_le (by have := World.block_lt_of_cell? _ _ hw169_0; first | rwa [add_block] at this | exact this) GW172.out))) _).trans (((cell_far (p := ⟨gb172, _, none⟩) (by first | exact Nat.ne_of_lt (Nat.lt_of_lt_of_le (by have := World.block_lt_of_cell? _ _ hw169_0; first | rwa [add_block] at this | exact this) GW172.out) | (rw [add_block]; exact Nat.ne_of_lt (Nat.lt_of_lt_of_le (by have := World.block_lt_of_cell? _ _ hw169_0; first | rwa [add_block] at this | exact this) GW172.out)) | (show (Addr.add _ _).block ≠ _; rw [add_block]; exact Nat.ne_of_lt (Nat.lt_of_lt_of_le (by have := World.block_lt_of_cell? _ _ hw169_0; first | rwa [add_block] at this | exact this) GW172.out)) | (dsimp only; exact Nat.ne_of_lt (Nat.lt_of_lt_of_le (by have := World.block_lt_of_cell? _ _ hw169_0; first | rwa [add_block] at this | exact this) GW172.out))) _).trans (hHeld.2.2.2.2.1)))), ((cell_far (p := ⟨gb172, _, none⟩) (by first | exact Nat.ne_of_lt (Nat.lt_of_lt_of_le (by have := World.block_lt_of_cell? _ _ hw169_1; first | rwa [add_block] at this | exact this) GW172.out) | (rw [add_block]; exact Nat.ne_of_lt (Nat.lt_of_lt_of_le (by have := World.block_lt_of_cell? _ _ hw169_1; first | rwa [add_block] at this | exact this) GW172.out)) | (show (Addr.add _ _).block ≠ _; rw [add_block]; exact Nat.ne_of_lt (Nat.lt_of_lt_of_le (by have := World.block_lt_of_cell? _ _ hw169_1; first | rwa [add_block] at this | exact this) GW172.out)) | (dsimp only; exact Nat.ne_of_lt (Nat.lt_of_lt_of_le (by have := World.block_lt_of_cell? _ _ hw169_1; first | rwa [add_block] at this | exact this) GW172.out))) _).trans (((cell_far (p := ⟨gb172, _, none⟩) (by first | exact Nat.ne_of_lt (Nat.lt_of_lt_of_le (by have := World.block_lt_of_cell? _ _ hw169_1; first | rwa [add_block] at this | exact this) GW172.out) | (rw [add_block]; exact Nat.ne_of_lt (Nat.lt_of_lt_of_le (by have := World.block_lt_of_cell? _ _ hw169_1; first | rwa [add_block] at this | exact this) GW172.out)) | (show (Addr.add _ _).block ≠ _; rw [add_block]; exact Nat.ne_of_lt (Nat.lt_of_lt_of_le (by have := World.block_lt_of_cell? _ _ hw169_1; first | rwa [add_block] at this | exact this) GW172.out)) | (dsimp only; exact Nat.ne_of_lt (Nat.lt_of_lt_of_le (by have := World.block_lt_of_cell? _ _ hw169_1; first | rwa [add_block] at this | exact this) GW172.out))) _).trans (hHeld.2.2.2.2.2.1)))), ((cell_far (p := ⟨gb172, _, none⟩) (by first | exact Nat.ne_of_lt (Nat.lt_of_lt_of_le (by have := World.block_lt_of_cell? _ _ hw170_0; first | rwa [add_block] at this | exact this) GW172.out) | (rw [add_block]; exact Nat.ne_of_lt (Nat.lt_of_lt_of_le (by have := World.block_lt_of_cell? _ _ hw170_0; first | rwa [add_block] at this | exact this) GW172.out)) | (show (Addr.add _ _).block ≠ _; rw [add_block]; exact Nat.ne_of_lt (Nat.lt_of_lt_of_le (by have := World.block_lt_of_cell? _ _ hw170_0; first | rwa [add_block] at this | exact this) GW172.out)) | (dsimp only; exact Nat.ne_of_lt (Nat.lt_of_lt_of_le (by have := World.block_lt_of_cell? _ _ hw170_0; first | rwa [add_block] at this | exact this) GW172.out))) _).trans (((cell_far (p := ⟨gb172, _, none⟩) (by first | exact Nat.ne_of_lt (Nat.lt_of_lt_of_le (by have := World.block_lt_of_cell? _ _ hw170_0; first | rwa [add_block] at this | exact this) GW172.out) | (rw [add_block]; exact Nat.ne_of_lt (Nat.lt_of_lt_of_le (by have := World.block_lt_of_cell? _ _ hw170_0; first | rwa [add_block] at this | exact this) GW172.out)) | (show (Addr.add _ _).block ≠ _; rw [add_block]; exact Nat.ne_of_lt (Nat.lt_of_lt_of_le (by have := World.block_lt_of_cell? _ _ hw170_0; first | rwa [add_block] at this | exact this) GW172.out)) | (dsimp only; exact Nat.ne_of_lt (Nat.lt_of_lt_of_le (by have := World.block_lt_of_cell? _ _ hw170_0; first | rwa [add_block] at this | exact this) GW172.out))) _).trans (hHeld.2.2.2.2.2.2.1)))), ((cell_far (p := ⟨gb172, _, none⟩) (by first | exact Nat.ne_of_lt (Nat.lt_of_lt_of_le (by have := World.block_lt_of_cell? _ _ hw170_1; first | rwa [add_block] at this | exact this) GW172.out) | (rw [add_block]; exact Nat.ne_of_lt (Nat.lt_of_lt_of_le (by have := World.block_lt_of_cell? _ _ hw170_1; first | rwa [add_block] at this | exact this) GW172.out)) | (show (Addr.add _ _).block ≠ _; rw [add_block]; exact Nat.ne_of_lt (Nat.lt_of_lt_of_le (by have := World.block_lt_of_cell? _ _ hw170_1; first | rwa [add_block] at this | exact this) GW172.out)) | (dsimp only; exact Nat.ne_of_lt (Nat.lt_of_lt_of_le (by have := World.block_lt_of_cell? _ _ hw170_1; first | rwa [add_block] at this | exact this) GW172.out))) _).trans (((cell_far (p := ⟨gb172, _, none⟩) (by first | exact Nat.ne_of_lt (Nat.lt_of_lt_of_le (by have := World.block_lt_of_cell? _ _ hw170_1; first | rwa [add_block] at this | exact this) GW172.out) | (rw [add_block]; exact Nat.ne_of_lt (Nat.lt_of_lt_of_le (by have := World.block_lt_of_cell? _ _ hw170_1; first | rwa [add_block] at this | exact this) GW172.out)) | (show (Addr.add _ _).block ≠ _; rw [add_block]; exact Nat.ne_of_lt (Nat.lt_of_lt_of_le (by have := World.block_lt_of_cell? _ _ hw170_1; first | rwa [add_block] at this | exact this) GW172.out)) | (dsimp only; exact Nat.ne_of_lt (Nat.lt_of_lt_of_le (by have := World.block_lt_of_cell? _ _ hw170_1; first | rwa [add_block] at this | exact this) GW172.out))) _).trans (hHeld.2.2.2.2.2.2.2))))⟩ (fun hHeld => ?_)
   clear hK K
   refine done_ (done_of HT_.out (by kernel_rfl)) ?_
   have hnb35 := NB171_167.out
   have hnc35 := NB167_171.out
   have hnb36 := NB171_168.out
   have hnc36 := NB168_171.out
   have hnb37 := NB171_172.out
   have hnc37 := NB172_171.out
   have hcz38_0 : w30.cell? ⟨gb171, 0, none⟩ = some (.int .i64 0) := (blk_cell BK171.out 0).trans rfl
   have hcz38_1 : w30.cell? ⟨gb171, 1, none⟩ = some (.int .i64 0) := (blk_cell BK171.out 1).trans rfl
   have hfz38_0 := blk_frozen BK171.out 0
   have hfz38_1 := blk_frozen BK171.out 1
   try go_wp2
   go_loopg [7] k (fun kq v7 w' => ∃ (x7_1 : Int) (x169000_1 : Int) (x169001_1 : Int), v7 = .int .i64 x7_1 ∧ Aside0 (fan_curve.l0 kq a1 x7_1 a0_0 a0_1 a0_2 l0_3 ((rd_T42 l0_3 (ji4)).f0) ((rd_T42 l0_3 (ji4)).f1) = some (r1, r2)) ∧ Aside0 (kq ≤ k) ∧ Aside0 (w'.heap[gb167]? = some (.cells #[.int .i64 a0_0, .bool a0_1, .bool a0_2, (.slice (some ad169) l0_3.length c0_3)] 25 (0, 0))) ∧ Aside0 (w'.heap[gb168]? = some (.cells #[.int .i64 x169000_1, .int .i64 x169001_1] 34 (0, 0))) ∧ Aside0 (w'.heap[gb171]? = some (.cells #[.int .i64 ((rd_T42 l0_3 0).f0), .int .i64 ((rd_T42 l0_3 0).f1)] 42 (0, 0))) ∧ Aside0 (w'.heap[gb172]? = some (.cells #[.int .i64 ((rd_T42 l0_3 (ji4)).f0), .int .i64 ((rd_T42 l0_3 (ji4)).f1)] 42 (0, 0))) ∧ Aside0 (Below w.heap.size w w'))
   case atStart => exact ⟨(1), (0), (0), xr, H', ⟨Nat.le_refl _⟩, ⟨by (with_reducible repeat (first | refine blk_drewN ?_ _ | refine blk_drew ?_ | refine blk_alloc ?_ _)); refine blk_far ?_ NB167_172.out _; (with_reducible repeat (first | refine blk_drewN ?_ _ | refine blk_drew ?_ | refine blk_alloc ?_ _)); refine blk_far ?_ NB167_172.out _; (with_reducible repeat (first | refine blk_drewN ?_ _ | refine blk_drew ?_ | refine blk_alloc ?_ _)); refine blk_far ?_ NB167_171.out _; (with_reducible repeat (first | refine blk_drewN ?_ _ | refine blk_drew ?_ | refine blk_alloc ?_ _)); refine blk_far ?_ NB167_171.out _; (with_reducible repeat (first | refine blk_drewN ?_ _ | refine blk_drew ?_ | refine blk_alloc ?_ _)); exact BK167.out⟩, ⟨by (with_reducible repeat (first | refine blk_drewN ?_ _ | refine blk_drew ?_ | refine blk_alloc ?_ _)); refine blk_far ?_ NB168_172.out _; (with_reducible repeat (first | refine blk_drewN ?_ _ | refine blk_drew ?_ | refine blk_alloc ?_ _)); refine blk_far ?_ NB168_172.out _; (with_reducible repeat (first | refine blk_drewN ?_ _ | refine blk_drew ?_ | refine blk_alloc ?_ _)); refine blk_far ?_ NB168_171.out _; (with_reducible repeat (first | refine blk_drewN ?_ _ | refine blk_drew ?_ | refine blk_alloc ?_ _)); refine blk_far ?_ NB168_171.out _; (with_reducible repeat (first | refine blk_drewN ?_ _ | refine blk_drew ?_ | refine blk_alloc ?_ _)); exact BK168.out⟩, ⟨by (with_reducible repeat (first | refine blk_drewN ?_ _ | refine blk_drew ?_ | refine blk_alloc ?_ _)); refine blk_far ?_ NB171_172.out _; (with_reducible repeat (first | refine blk_drewN ?_ _ | refine blk_drew ?_ | refine blk_alloc ?_ _)); refine blk_far ?_ NB171_172.out _; (with_reducible repeat (first | refine blk_drewN ?_ _ | refine blk_drew ?_ | refine blk_alloc ?_ _)); refine blk_put (cs := #[.int .i64 ((rd_T42 l0_3 0).f0), .int .i64 0]) ?_ 1 _ rfl; (with_reducible repeat (first | refine blk_drewN ?_ _ | refine blk_drew ?_ | refine blk_alloc ?_ _)); refine blk_put (cs := #[.int .i64 0, .int .i64 0]) ?_ 0 _ rfl; (with_reducible repeat (first | refine blk_drewN ?_ _ | refine blk_drew ?_ | refine blk_alloc ?_ _)); exact BK171.out⟩, ⟨by (with_reducible repeat (first | refine blk_drewN ?_ _ | refine blk_drew ?_ | refine blk_alloc ?_ _)); refine blk_put (cs := #[.int .i64 ((rd_T42 l0_3 (ji4)).f0), .int .i64 0]) ?_ 1 _ rfl; (with_reducible repeat (first | refine blk_drewN ?_ _ | refine blk_drew ?_ | refine blk_alloc ?_ _)); refine blk_put (cs := #[.int .i64 0, .int .i64 0]) ?_ 0 _ rfl; (with_reducible repeat (first | refine blk_drewN ?_ _ | refine blk_drew ?_ | refine blk_alloc ?_ _)); refine blk_far ?_ NB172_171.out _; (with_reducible repeat (first | refine blk_drewN ?_ _ | refine blk_drew ?_ | refine blk_alloc ?_ _)); refine blk_far ?_ NB172_171.out _; (with_reducible repeat (first | refine blk_drewN ?_ _ | refine blk_drew ?_ | refine blk_alloc ?_ _)); exact BK172.out⟩, ⟨xh HB⟩⟩
   case round =>
    clear H'
    try clear c1
    try clear p1
    try clear q1
    try clear hx1
    try clear qi1
    try clear c2
    try clear p2
    try clear c3
    try clear c7
    try clear c7b0
    try clear p16
    try clear q16
    try clear hx16
    try clear qi16
    try clear p17
    try clear q17
    try clear hx17
    try clear c18
    try clear c19
    try clear c20
    try clear c22
    try clear c23
    try clear c35
    try clear c36
    try clear c37
    try clear hcz21_0
    try clear hcz21_1
    try clear hcz24_0
    try clear hcz24_1
    try clear hcz38_0
    try clear hcz38_1
    try clear hfz21_0
    try clear hfz21_1
    try clear hfz24_0
    try clear hfz24_1
    try clear hfz38_0
    try clear hfz38_1
    try clear hx169_0
    try clear hx169_1
    try clear hx170_0
    try clear hx170_1
    try clear p169
    try clear p170
    try clear q169
    try clear q170
    obtain ⟨x7_1, x169000_1, x169001_1, rfl, HA, HK1, BK167, BK168, BK171, BK172, HB⟩ := hrel
    cases gk with
    | zero => exact absurd HA.out (by simp [fan_curve.l0])
    | succ k1 =>
     have H := HA.out
     clear HA
     simp only [fan_curve.l0] at H
     by_cases c39 : x7_1 < (l0_3.length : Int)
     ·
      rw [if_pos c39] at H
      have c39b0 : decide (x7_1 < (l0_3.length : Int)) = true := decide_eq_true c39
      clear c39
      by_cases c40 : 0 ≤ x7_1
      rotate_left
      · rw [if_neg c40] at H; exact absurd H (by simp)
      rw [if_pos c40] at H
      have c40b0 : decide (0 ≤ x7_1) = true := decide_eq_true c40
      clear c40
      by_cases c41 : a1 ≤ ((rd_T42 l0_3 x7_1).f0)
      ·
       rw [if_pos c41] at H
       have c41b0 : decide (a1 ≤ ((rd_T42 l0_3 x7_1).f0)) = true := decide_eq_true c41
       clear c41
       obtain ⟨ji42, hji42⟩ : ∃ j_ : Int, (wrap64 (x7_1 - 1)) = j_ := ⟨_, rfl⟩
       replace H : (if 0 ≤ (ji42) then (if (ji42) < (l0_3.length : Int) then ((fan_between.f ((rd_T42 l0_3 (ji42)).f0) ((rd_T42 l0_3 (ji42)).f1) ((rd_T42 l0_3 x7_1).f0) ((rd_T42 l0_3 x7_1).f1) a1).bind fun bt176 => (some (bt176.1, bt176.2))) else (none)) else (none)) = some (r1, r2) := by first | (rw [hji42] at H; exact H) | (simp only [hji42] at H ⊢; exact H)
       have hji42w : (IntKind.i64.wrap (x7_1 - 1)) = ji42 := (i64_w _).trans hji42
       by_cases c43 : 0 ≤ (ji42)
       rotate_left
       · rw [if_neg c43] at H; exact absurd H (by simp)
       rw [if_pos c43] at H
       have c43b0 : decide (0 ≤ (ji42)) = true := decide_eq_true c43
       clear c43
       by_cases c44 : (ji42) < (l0_3.length : Int)
       rotate_left
       · rw [if_neg c44] at H; exact absurd H (by simp)
       rw [if_pos c44] at H
       have c44b0 : decide ((ji42) < (l0_3.length : Int)) = true := decide_eq_true c44
       clear c44
       replace H := Option.bind_eq_some_iff.mp H
       obtain ⟨⟨t176, t177⟩, A450, H⟩ := H
       replace H : (some (t176, t177)) = some (r1, r2) := H
       have A45 := am A450
       clear A450
       simp only [Option.some.injEq, Prod.mk.injEq] at H
       obtain ⟨rfl, rfl⟩ := H
       have hnb46 := NB167_168.out
       have hnc46 := NB168_167.out
       have hnb47 := NB167_171.out
       have hnc47 := NB171_167.out
       have hnb48 := NB167_172.out
       have hnc48 := NB172_167.out
       have hcz49_0 : wr.cell? ⟨gb167, 0, none⟩ = some (.int .i64 a0_0) := (blk_cell BK167.out 0).trans rfl
       have hcz49_1 : wr.cell? ⟨gb167, 1, none⟩ = some (.bool a0_1) := (blk_cell BK167.out 1).trans rfl
       have hcz49_2 : wr.cell? ⟨gb167, 2, none⟩ = some (.bool a0_2) := (blk_cell BK167.out 2).trans rfl
       have hcz49_3 : wr.cell? ⟨gb167, 3, none⟩ = some (.slice (some ad169) l0_3.length c0_3) := (blk_cell BK167.out 3).trans rfl
       have hfz49_0 := blk_frozen BK167.out 0
       have hfz49_1 := blk_frozen BK167.out 1
       have hfz49_2 := blk_frozen BK167.out 2
       have hfz49_3 := blk_frozen BK167.out 3
       have p173 : 0 ≤ (x7_1 : Int) := of_decide_eq_true xa
       have q173 : x7_1 < (l0_3.length : Int) := of_decide_eq_true xa
       obtain ⟨ad173, e173, hx173_0, hx173_1⟩ := at_T42 HR0_3.out x7_1 p173 q173
       obtain rfl : ad169 = ad173 := (by injection e173)
       replace hx173_0 := (HB.out.cell (World.block_lt_of_cell? w _ hx173_0)).trans hx173_0
       replace hx173_1 := (HB.out.cell (World.block_lt_of_cell? w _ hx173_1)).trans hx173_1
       replace p173 := eq_true p173
       replace q173 := eq_true q173
       try go_wp2
       have n0_ := am (blk_drew BK167.out)
       have n1_ := am (blk_drew BK168.out)
       have n2_ := am (blk_drew BK171.out)
       have n3_ := am (blk_drew BK172.out)
       have n4_ := am (below_drew1 HB.out)
       clear BK167
       clear BK168
       clear BK171
       clear BK172
       clear HB
       have BK167 := n0_
       have BK168 := n1_
       have BK171 := n2_
       have BK172 := n3_
       have HB := n4_
       clear n0_ n1_ n2_ n3_ n4_
       have p174 : 0 ≤ ((ji42) : Int) := of_decide_eq_true xa
       have q174 : (ji42) < (l0_3.length : Int) := of_decide_eq_true xa
       obtain ⟨ad174, e174, hx174_0, hx174_1⟩ := at_T42 HR0_3.out (ji42) p174 q174
       have hw174_1 := hx174_1
       have hw174_0 := hx174_0
       obtain rfl : ad169 = ad174 := (by injection e174)
       replace hx174_0 := (HB.out.cell (World.block_lt_of_cell? w _ hx174_0)).trans hx174_0
       replace hx174_1 := (HB.out.cell (World.block_lt_of_cell? w _ hx174_1)).trans hx174_1
       replace p174 := eq_true p174
       replace q174 := eq_true q174
       have p175 : 0 ≤ (x7_1 : Int) := of_decide_eq_true xa
       have q175 : x7_1 < (l0_3.length : Int) := of_decide_eq_true xa
       obtain ⟨ad175, e175, hx175_0, hx175_1⟩ := at_T42 HR0_3.out x7_1 p175 q175
       have hw175_1 := hx175_1
       have hw175_0 := hx175_0
       obtain rfl : ad169 = ad175 := (by injection e175)
       replace hx175_0 := (HB.out.cell (World.block_lt_of_cell? w _ hx175_0)).trans hx175_0
       replace hx175_1 := (HB.out.cell (World.block_lt_of_cell? w _ hx175_1)).trans hx175_1
       replace p175 := eq_true p175
       replace q175 := eq_true q175
       refine start_ (n := 14) (S := fun w' => w'.cell? ⟨gb167, 0, none⟩ = some (.int .i64 a0_0) ∧ w'.cell? ⟨gb167, 1, none⟩ = some (.bool a0_1) ∧ w'.cell? ⟨gb167, 2, none⟩ = some (.bool a0_2) ∧ w'.cell? ⟨gb167, 3, none⟩ = some (.slice (some ad169) l0_3.length c0_3) ∧ w'.cell? (ad169.add (((ji42)).toNat * 2)) = some (.int .i64 ((rd_T42 l0_3 (ji42)).f0)) ∧ w'.cell? ⟨(ad169.add (((ji42)).toNat * 2)).block, (ad169.add (((ji42)).toNat * 2)).off + 1, none⟩ = some (.int .i64 ((rd_T42 l0_3 (ji42)).f1)) ∧ w'.cell? (ad169.add ((x7_1).toNat * 2)) = some (.int .i64 ((rd_T42 l0_3 x7_1).f0)) ∧ w'.cell? ⟨(ad169.add ((x7_1).toNat * 2)).block, (ad169.add ((x7_1).toNat * 2)).off + 1, none⟩ = some (.int .i64 ((rd_T42 l0_3 x7_1).f1))) (ds := []) #[false, false, false, false, false, false, false, false, false, false, false, false, false, false] (by kernel_rfl) rfl rfl ⟨(blk_cell BK167.out 0).trans rfl, (blk_cell BK167.out 1).trans rfl, (blk_cell BK167.out 2).trans rfl, (blk_cell BK167.out 3).trans rfl, ((HB.out.cell (World.block_lt_of_cell? w _ hw174_0)).trans hw174_0), ((HB.out.cell (World.block_lt_of_cell? w _ hw174_1)).trans hw174_1), ((HB.out.cell (World.block_lt_of_cell? w _ hw175_0)).trans hw175_0), ((HB.out.cell (World.block_lt_of_cell? w _ hw175_1)).trans hw175_1)⟩ (fun hHeld => ?_); refine with_tabW fan_curve.tab8 fan_curve.bits8 (fun HT_ HW_ => ?_)
       generalize wr.drew = w50 at BK167 BK168 BK171 BK172 HB hx174_0 hx174_1 hx175_0 hx175_1 hHeld ⊢
       refine pure_ (i := 0) (N := some 44) (v := ?_) (a' := ?_) #[true, false, false, false, false, false, false, false, false, false, false, false, false, false] rfl rfl (any_of HT_.out (by kernel_rfl)) (fun _ _ _ h => h) (Or.inl ⟨by rfl, ?_⟩) ?_ ?_
       rotate_left
       ·
        intro w'
        go_simp
        with_reducible rfl
       rotate_left
       ·
        simp only [Act.put, List.setIfInBounds_toArray, List.set_cons_zero, List.set_cons_succ, i64_w, i32_w]
        rfl
       refine pure_ (i := 2) (N := some 46) (v := ?_) (a' := ?_) #[true, false, true, false, false, false, false, false, false, false, false, false, false, false] rfl rfl (any_of HT_.out (by kernel_rfl)) (fun _ _ _ h => h) (Or.inl ⟨by rfl, ?_⟩) ?_ ?_
       rotate_left
       ·
        intro w'
        go_simp
        with_reducible rfl
       rotate_left
       ·
        simp only [Act.put, List.setIfInBounds_toArray, List.set_cons_zero, List.set_cons_succ, i64_w, i32_w]
        rfl
       refine pure_ (i := 3) (N := some 47) (v := ?_) (a' := ?_) #[true, false, true, true, false, false, false, false, false, false, false, false, false, false] rfl rfl (any_of HT_.out (by kernel_rfl)) (fun _ _ _ h => h) (Or.inl ⟨by rfl, ?_⟩) ?_ ?_
       rotate_left
       ·
        intro w'
        go_simp
        with_reducible rfl
       rotate_left
       ·
        simp only [Act.put, List.setIfInBounds_toArray, List.set_cons_zero, List.set_cons_succ, i64_w, i32_w]
        rfl
       refine pure_ (i := 6) (N := some 50) (v := ?_) (a' := ?_) #[true, false, true, true, false, false, true, false, false, false, false, false, false, false] rfl rfl (any_of HT_.out (by kernel_rfl)) (fun _ _ _ h => h) (Or.inl ⟨by rfl, ?_⟩) ?_ ?_
       rotate_left
       ·
        intro w'
        go_simp
        with_reducible rfl
       rotate_left
       ·
        simp only [Act.put, List.setIfInBounds_toArray, List.set_cons_zero, List.set_cons_succ, i64_w, i32_w]
        rfl
       refine pure_ (i := 8) (N := some 52) (v := ?_) (a' := ?_) #[true, false, true, true, false, false, true, false, true, false, false, false, false, false] rfl rfl (any_of HT_.out (by kernel_rfl)) (fun _ _ _ h => h) (Or.inl ⟨by rfl, ?_⟩) ?_ ?_
       rotate_left
       ·
        intro w'
        go_simp
        with_reducible rfl
       rotate_left
       ·
        simp only [Act.put, List.setIfInBounds_toArray, List.set_cons_zero, List.set_cons_succ, i64_w, i32_w]
        rfl
       refine pure_ (i := 11) (N := some 55) (v := ?_) (a' := ?_) #[true, false, true, true, false, false, true, false, true, false, false, true, false, false] rfl rfl (any_of HT_.out (by kernel_rfl)) (fun _ _ _ h => h) (Or.inl ⟨by rfl, ?_⟩) ?_ ?_
       rotate_left
       ·
        intro w'
        go_simp
        with_reducible rfl
       rotate_left
       ·
        simp only [Act.put, List.setIfInBounds_toArray, List.set_cons_zero, List.set_cons_succ, i64_w, i32_w]
        rfl
       refine take_ (i := 1) (N := some 45) (v := ?_) (a' := ?_) #[true, true, true, true, false, false, true, false, true, false, false, true, false, false] rfl rfl (take_ofW HT_.out HW_.out (by kernel_rfl)) (fun _ _ _ h => h) (Or.inl ⟨by rfl, ?_⟩) hHeld ?_ ?_
       rotate_left
       ·
        rintro w' ⟨s0, s1, s2, s3, s4, s5, s6, s7⟩
        go_simp
        with_reducible rfl
       rotate_left
       ·
        simp only [Act.put, List.setIfInBounds_toArray, List.set_cons_zero, List.set_cons_succ, i64_w, i32_w]
        rfl
       refine pure_ (i := 4) (N := some 48) (v := ?_) (a' := ?_) #[true, true, true, true, true, false, true, false, true, false, false, true, false, false] rfl rfl (any_of HT_.out (by kernel_rfl)) (fun _ _ _ h => h) (Or.inl ⟨by rfl, ?_⟩) ?_ ?_
       rotate_left
       ·
        intro w'
        go_simp
        with_reducible rfl
       rotate_left
       ·
        simp only [Act.put, List.setIfInBounds_toArray, List.set_cons_zero, List.set_cons_succ, i64_w, i32_w]
        rfl
       refine take_ (i := 5) (N := some 49) (v := ?_) (a' := ?_) #[true, true, true, true, true, true, true, false, true, false, false, true, false, false] rfl rfl (take_ofW HT_.out HW_.out (by kernel_rfl)) (fun _ _ _ h => h) (Or.inl ⟨by rfl, ?_⟩) hHeld ?_ ?_
       rotate_left
       ·
        rintro w' ⟨s0, s1, s2, s3, s4, s5, s6, s7⟩
        go_simp
        with_reducible rfl
       rotate_left
       ·
        simp only [Act.put, List.setIfInBounds_toArray, List.set_cons_zero, List.set_cons_succ, i64_w, i32_w]
        rfl
       refine take_ (i := 7) (N := some 51) (v := ?_) (a' := ?_) #[true, true, true, true, true, true, true, true, true, false, false, true, false, false] rfl rfl (take_ofW HT_.out HW_.out (by kernel_rfl)) (fun _ _ _ h => h) (Or.inl ⟨by rfl, ?_⟩) hHeld ?_ ?_
       rotate_left
       ·
        rintro w' ⟨s0, s1, s2, s3, s4, s5, s6, s7⟩
        go_simp
        with_reducible rfl
       rotate_left
       ·
        simp only [Act.put, List.setIfInBounds_toArray, List.set_cons_zero, List.set_cons_succ, i64_w, i32_w]
        rfl
       refine pure_ (i := 9) (N := some 53) (v := ?_) (a' := ?_) #[true, true, true, true, true, true, true, true, true, true, false, true, false, false] rfl rfl (any_of HT_.out (by kernel_rfl)) (fun _ _ _ h => h) (Or.inl ⟨by rfl, ?_⟩) ?_ ?_
       rotate_left
       ·
        intro w'
        go_simp
        with_reducible rfl
       rotate_left
       ·
        simp only [Act.put, List.setIfInBounds_toArray, List.set_cons_zero, List.set_cons_succ, i64_w, i32_w]
        rfl
       refine take_ (i := 10) (N := some 54) (v := ?_) (a' := ?_) #[true, true, true, true, true, true, true, true, true, true, true, true, false, false] rfl rfl (take_ofW HT_.out HW_.out (by kernel_rfl)) (fun _ _ _ h => h) (Or.inl ⟨by rfl, ?_⟩) hHeld ?_ ?_
       rotate_left
       ·
        rintro w' ⟨s0, s1, s2, s3, s4, s5, s6, s7⟩
        go_simp
        with_reducible rfl
       rotate_left
       ·
        simp only [Act.put, List.setIfInBounds_toArray, List.set_cons_zero, List.set_cons_succ, i64_w, i32_w]
        rfl
       refine one_ (i := 12) (N := some 56) #[true, true, true, true, true, true, true, true, true, true, true, true, true, false] rfl rfl (one_of HT_.out (by kernel_rfl)) (by decide) (fun K hK => ?_)
       refine goes_ Try.func27 (by kernel_rfl) rfl #[.agg #[.int .i64 ((rd_T42 l0_3 (ji42)).f0), .int .i64 ((rd_T42 l0_3 (ji42)).f1)], .agg #[.int .i64 ((rd_T42 l0_3 x7_1).f0), .int .i64 ((rd_T42 l0_3 x7_1).f1)], .int .i64 a1] (by rfl) rfl rfl (by (try simp only [List.map_toArray, List.map_cons, List.map_nil]); first | done | (simp only [hji42]; rfl) | rfl | (simp only [List.length_drop, List.length_take]; rfl)) ?_
       with_reducible refine (fan_between.calls ((rd_T42 l0_3 (ji42)).f0) ((rd_T42 l0_3 (ji42)).f1) ((rd_T42 l0_3 x7_1).f0) ((rd_T42 l0_3 x7_1).f1) a1 t176 t177 _ A45.out).mono ?_
       rintro e w51 ⟨rfl, hb⟩
       refine ⟨_, rfl, ?_⟩
       have n0_ := am (xw BK167 hb)
       have n1_ := am (xw BK168 hb)
       have n2_ := am (xw BK171 hb)
       have n3_ := am (xw BK172 hb)
       have n4_ := am (below_step (xh HB) hb)
       clear BK167
       clear BK168
       clear BK171
       clear BK172
       clear HB
       have BK167 := n0_
       have BK168 := n1_
       have BK171 := n2_
       have BK172 := n3_
       have HB := n4_
       clear n0_ n1_ n2_ n3_ n4_
       (try clear hb)
       (try clear hb2)
       (try clear hk)
       (try clear hi)
       refine hK.out _ _ ⟨(blk_cell BK167.out 0).trans rfl, (blk_cell BK167.out 1).trans rfl, (blk_cell BK167.out 2).trans rfl, (blk_cell BK167.out 3).trans rfl, ((HB.out.cell (World.block_lt_of_cell? w _ hw174_0)).trans hw174_0), ((HB.out.cell (World.block_lt_of_cell? w _ hw174_1)).trans hw174_1), ((HB.out.cell (World.block_lt_of_cell? w _ hw175_0)).trans hw175_0), ((HB.out.cell (World.block_lt_of_cell? w _ hw175_1)).trans hw175_1)⟩ (fun hHeld => ?_)
       clear hK K
       refine norm_ (a' := ?_) ?_ ?_
       rotate_left
       ·
        show Act.put _ (some 56) _ = _
        simp only [Act.put, List.setIfInBounds_toArray, List.set_cons_zero, List.set_cons_succ, i64_w, i32_w]
        rfl
       refine one_ (i := 13) (N := none) #[true, true, true, true, true, true, true, true, true, true, true, true, true, true] rfl rfl (one_of HT_.out (by kernel_rfl)) (by decide) (fun K hK => ?_)
       have hs52 : w51.cell? ⟨gb168, 0, none⟩ = some (.int .i64 x169000_1) := (blk_cell BK168.out 0).trans rfl
       have hfs52 := blk_frozen BK168.out 0
       have hns52_0 := NB167_168.out
       have hns52_2 := NB171_168.out
       have hns52_3 := NB172_168.out
       have hms52_0 := NB168_167.out
       have hms52_2 := NB168_171.out
       have hms52_3 := NB168_172.out
       have hs53 : w51.cell? ⟨gb168, 1, none⟩ = some (.int .i64 x169001_1) := (blk_cell BK168.out 1).trans rfl
       have hfs53 := blk_frozen BK168.out 1
       have hns53_0 := NB167_168.out
       have hns53_2 := NB171_168.out
       have hns53_3 := NB172_168.out
       have hms53_0 := NB168_167.out
       have hms53_2 := NB168_171.out
       have hms53_3 := NB168_172.out
       refine skip_ (w1 := ?_) (by rfl) rfl ?_ ?_
       rotate_left
       ·
        go_simp
        rfl
       refine hK.out _ _ ⟨((cell_far (p := ⟨gb168, _, none⟩) NB167_168.out _).trans (((cell_far (p := ⟨gb168, _, none⟩) NB167_168.out _).trans (hHeld.1)))), ((cell_far (p := ⟨gb168, _, none⟩) NB167_168.out _).trans (((cell_far (p := ⟨gb168, _, none⟩) NB167_168.out _).trans (hHeld.2.1)))), ((cell_far (p := ⟨gb168, _, none⟩) NB167_168.out _).trans (((cell_far (p := ⟨gb168, _, none⟩) NB167_168.out _).trans (hHeld.2.2.1)))), ((cell_far (p := ⟨gb168, _, none⟩) NB167_168.out _).trans (((cell_far (p := ⟨gb168, _, none⟩) NB167_168.out _).trans (hHeld.2.2.2.1)))), ((cell_far (p := ⟨gb168, _, none⟩) (by first | exact Nat.ne_of_lt (Nat.lt_of_lt_of_le (by have := World.block_lt_of_cell? _ _ hw174_0; first | rwa [add_block] at this | exact this) GW168.out) | (rw [add_block]; exact Nat.ne_of_lt (Nat.lt_of_lt_of_le (by have := World.block_lt_of_cell? _ _ hw174_0; first | rwa [add_block] at this | exact this) GW168.out)) | (show (Addr.add _ _).block ≠ _; rw [add_block]; exact Nat.ne_of_lt (Nat.lt_of_lt_of_le (by have := World.block_lt_of_cell? _ _ hw174_0; first | rwa [add_block] at this | exact this) GW168.out)) | (dsimp only; exact Nat.ne_of_lt (Nat.lt_of_lt_of_le (by have := World.block_lt_of_cell? _ _ hw174_0; first | rwa [add_block] at this | exact this) GW168.out))) _).trans (((cell_far (p := ⟨gb168, _, none⟩) (by first | exact Nat.ne_of_lt (Nat.lt_of_lt_of_le (by have := World.block_lt_of_cell? _ _ hw174_0; first | rwa [add_block] at this | exact this) GW168.out) | (rw [add_block]; exact Nat.ne_of_lt (Nat.lt_of_lt_of_le (by have := World.block_lt_of_cell? _ _ hw174_0; first | rwa [add_block] at this | exact this) GW168.out)) | (show (Addr.add _ _).block ≠ _; rw [add_block]; exact Nat.ne_of_lt (Nat.lt_of_lt_of_le (by have := World.block_lt_of_cell? _ _ hw174_0; first | rwa [add_block] at this | exact this) GW168.out)) | (dsimp only; exact Nat.ne_of_lt (Nat.lt_of_lt_of_le (by have := World.block_lt_of_cell? _ _ hw174_0; first | rwa [add_block] at this | exact this) GW168.out))) _).trans (hHeld.2.2.2.2.1)))), ((cell_far (p := ⟨gb168, _, none⟩) (by first | exact Nat.ne_of_lt (Nat.lt_of_lt_of_le (by have := World.block_lt_of_cell? _ _ hw174_1; first | rwa [add_block] at this | exact this) GW168.out) | (rw [add_block]; exact Nat.ne_of_lt (Nat.lt_of_lt_of_le (by have := World.block_lt_of_cell? _ _ hw174_1; first | rwa [add_block] at this | exact this) GW168.out)) | (show (Addr.add _ _).block ≠ _; rw [add_block]; exact Nat.ne_of_lt (Nat.lt_of_lt_of_le (by have := World.block_lt_of_cell? _ _ hw174_1; first | rwa [add_block] at this | exact this) GW168.out)) | (dsimp only; exact Nat.ne_of_lt (Nat.lt_of_lt_of_le (by have := World.block_lt_of_cell? _ _ hw174_1; first | rwa [add_block] at this | exact this) GW168.out))) _).trans (((cell_far (p := ⟨gb168, _, none⟩) (by first | exact Nat.ne_of_lt (Nat.lt_of_lt_of_le (by have := World.block_lt_of_cell? _ _ hw174_1; first | rwa [add_block] at this | exact this) GW168.out) | (rw [add_block]; exact Nat.ne_of_lt (Nat.lt_of_lt_of_le (by have := World.block_lt_of_cell? _ _ hw174_1; first | rwa [add_block] at this | exact this) GW168.out)) | (show (Addr.add _ _).block ≠ _; rw [add_block]; exact Nat.ne_of_lt (Nat.lt_of_lt_of_le (by have := World.block_lt_of_cell? _ _ hw174_1; first | rwa [add_block] at this | exact this) GW168.out)) | (dsimp only; exact Nat.ne_of_lt (Nat.lt_of_lt_of_le (by have := World.block_lt_of_cell? _ _ hw174_1; first | rwa [add_block] at this | exact this) GW168.out))) _).trans (hHeld.2.2.2.2.2.1)))), ((cell_far (p := ⟨gb168, _, none⟩) (by first | exact Nat.ne_of_lt (Nat.lt_of_lt_of_le (by have := World.block_lt_of_cell? _ _ hw175_0; first | rwa [add_block] at this | exact this) GW168.out) | (rw [add_block]; exact Nat.ne_of_lt (Nat.lt_of_lt_of_le (by have := World.block_lt_of_cell? _ _ hw175_0; first | rwa [add_block] at this | exact this) GW168.out)) | (show (Addr.add _ _).block ≠ _; rw [add_block]; exact Nat.ne_of_lt (Nat.lt_of_lt_of_le (by have := World.block_lt_of_cell? _ _ hw175_0; first | rwa [add_block] at this | exact this) GW168.out)) | (dsimp only; exact Nat.ne_of_lt (Nat.lt_of_lt_of_le (by have := World.block_lt_of_cell? _ _ hw175_0; first | rwa [add_block] at this | exact this) GW168.out))) _).trans (((cell_far (p := ⟨gb168, _, none⟩) (by first | exact Nat.ne_of_lt (Nat.lt_of_lt_of_le (by have := World.block_lt_of_cell? _ _ hw175_0; first | rwa [add_block] at this | exact this) GW168.out) | (rw [add_block]; exact Nat.ne_of_lt (Nat.lt_of_lt_of_le (by have := World.block_lt_of_cell? _ _ hw175_0; first | rwa [add_block] at this | exact this) GW168.out)) | (show (Addr.add _ _).block ≠ _; rw [add_block]; exact Nat.ne_of_lt (Nat.lt_of_lt_of_le (by have := World.block_lt_of_cell? _ _ hw175_0; first | rwa [add_block] at this | exact this) GW168.out)) | (dsimp only; exact Nat.ne_of_lt (Nat.lt_of_lt_of_le (by have := World.block_lt_of_cell? _ _ hw175_0; first | rwa [add_block] at this | exact this) GW168.out))) _).trans (hHeld.2.2.2.2.2.2.1)))), ((cell_far (p := ⟨gb168, _, none⟩) (by first | exact Nat.ne_of_lt (Nat.lt_of_lt_of_le (by have := World.block_lt_of_cell? _ _ hw175_1; first | rwa [add_block] at this | exact this) GW168.out) | (rw [add_block]; exact Nat.ne_of_lt (Nat.lt_of_lt_of_le (by have := World.block_lt_of_cell? _ _ hw175_1; first | rwa [add_block] at this | exact this) GW168.out)) | (show (Addr.add _ _).block ≠ _; rw [add_block]; exact Nat.ne_of_lt (Nat.lt_of_lt_of_le (by have := World.block_lt_of_cell? _ _ hw175_1; first | rwa [add_block] at this | exact this) GW168.out)) | (dsimp only; exact Nat.ne_of_lt (Nat.lt_of_lt_of_le (by have := World.block_lt_of_cell? _ _ hw175_1; first | rwa [add_block] at this | exact this) GW168.out))) _).trans (((cell_far (p := ⟨gb168, _, none⟩) (by first | exact Nat.ne_of_lt (Nat.lt_of_lt_of_le (by have := World.block_lt_of_cell? _ _ hw175_1; first | rwa [add_block] at this | exact this) GW168.out) | (rw [add_block]; exact Nat.ne_of_lt (Nat.lt_of_lt_of_le (by have := World.block_lt_of_cell? _ _ hw175_1; first | rwa [add_block] at this | exact this) GW168.out)) | (show (Addr.add _ _).block ≠ _; rw [add_block]; exact Nat.ne_of_lt (Nat.lt_of_lt_of_le (by have := World.block_lt_of_cell? _ _ hw175_1; first | rwa [add_block] at this | exact this) GW168.out)) | (dsimp only; exact Nat.ne_of_lt (Nat.lt_of_lt_of_le (by have := World.block_lt_of_cell? _ _ hw175_1; first | rwa [add_block] at this | exact this) GW168.out))) _).trans (hHeld.2.2.2.2.2.2.2))))⟩ (fun hHeld => ?_)
       clear hK K
       refine done_ (done_of HT_.out (by kernel_rfl)) ?_
       try go_wp2
       refine bodyPost_ret (results_cell_row rfl _ _ gb168 34 #[.int .i64 t176, .int .i64 t177] (0, 0) _ rfl (by (with_reducible repeat (first | refine blk_drewN ?_ _ | refine blk_drew ?_ | refine blk_alloc ?_ _)); refine blk_put (cs := #[.int .i64 t176, .int .i64 x169001_1]) ?_ 1 _ rfl; (with_reducible repeat (first | refine blk_drewN ?_ _ | refine blk_drew ?_ | refine blk_alloc ?_ _)); refine blk_put (cs := #[.int .i64 x169000_1, .int .i64 x169001_1]) ?_ 0 _ rfl; (with_reducible repeat (first | refine blk_drewN ?_ _ | refine blk_drew ?_ | refine blk_alloc ?_ _)); exact BK168.out) Try.underlying34 rfl (by kernel_rfl)) rfl ?_
       exact ⟨by first | rfl | (simp [errW_none, errW_some] <;> rfl) | (simp only [← hji4, ← hji42]; first | rfl | (simp [errW_none, errW_some] <;> rfl)) | (simp [*, errW_none, errW_some] <;> rfl), xh HB⟩
      ·
       rw [if_neg c41] at H
       have c41b0 : decide (a1 ≤ ((rd_T42 l0_3 x7_1).f0)) = false := decide_eq_false c41
       clear c41
       have H' := am H
       clear H
       have hnb54 := NB167_168.out
       have hnc54 := NB168_167.out
       have hnb55 := NB167_171.out
       have hnc55 := NB171_167.out
       have hnb56 := NB167_172.out
       have hnc56 := NB172_167.out
       have hcz57_0 : wr.cell? ⟨gb167, 0, none⟩ = some (.int .i64 a0_0) := (blk_cell BK167.out 0).trans rfl
       have hcz57_1 : wr.cell? ⟨gb167, 1, none⟩ = some (.bool a0_1) := (blk_cell BK167.out 1).trans rfl
       have hcz57_2 : wr.cell? ⟨gb167, 2, none⟩ = some (.bool a0_2) := (blk_cell BK167.out 2).trans rfl
       have hcz57_3 : wr.cell? ⟨gb167, 3, none⟩ = some (.slice (some ad169) l0_3.length c0_3) := (blk_cell BK167.out 3).trans rfl
       have hfz57_0 := blk_frozen BK167.out 0
       have hfz57_1 := blk_frozen BK167.out 1
       have hfz57_2 := blk_frozen BK167.out 2
       have hfz57_3 := blk_frozen BK167.out 3
       have p173 : 0 ≤ (x7_1 : Int) := of_decide_eq_true xa
       have q173 : x7_1 < (l0_3.length : Int) := of_decide_eq_true xa
       obtain ⟨ad173, e173, hx173_0, hx173_1⟩ := at_T42 HR0_3.out x7_1 p173 q173
       obtain rfl : ad169 = ad173 := (by injection e173)
       replace hx173_0 := (HB.out.cell (World.block_lt_of_cell? w _ hx173_0)).trans hx173_0
       replace hx173_1 := (HB.out.cell (World.block_lt_of_cell? w _ hx173_1)).trans hx173_1
       replace p173 := eq_true p173
       replace q173 := eq_true q173
       go_wp2
       go_roundg k1
       case measure => have := HK1.out; omega
       case rel => exact ⟨(wrap64 (x7_1 + 1)), (x169000_1), (x169001_1), xr, H', ⟨by have := HK1.out; omega⟩, ⟨xb BK167⟩, ⟨xb BK168⟩, ⟨xb BK171⟩, ⟨xb BK172⟩, ⟨xh HB⟩⟩
     ·
      rw [if_neg c39] at H
      have c39b0 : decide (x7_1 < (l0_3.length : Int)) = false := decide_eq_false c39
      clear c39
      simp only [Option.some.injEq, Prod.mk.injEq] at H
      obtain ⟨rfl, rfl⟩ := H
      have hnb58 := NB167_168.out
      have hnc58 := NB168_167.out
      have hnb59 := NB167_171.out
      have hnc59 := NB171_167.out
      have hnb60 := NB167_172.out
      have hnc60 := NB172_167.out
      have hcz61_0 : wr.cell? ⟨gb167, 0, none⟩ = some (.int .i64 a0_0) := (blk_cell BK167.out 0).trans rfl
      have hcz61_1 : wr.cell? ⟨gb167, 1, none⟩ = some (.bool a0_1) := (blk_cell BK167.out 1).trans rfl
      have hcz61_2 : wr.cell? ⟨gb167, 2, none⟩ = some (.bool a0_2) := (blk_cell BK167.out 2).trans rfl
      have hcz61_3 : wr.cell? ⟨gb167, 3, none⟩ = some (.slice (some ad169) l0_3.length c0_3) := (blk_cell BK167.out 3).trans rfl
      have hfz61_0 := blk_frozen BK167.out 0
      have hfz61_1 := blk_frozen BK167.out 1
      have hfz61_2 := blk_frozen BK167.out 2
      have hfz61_3 := blk_frozen BK167.out 3
      have hnb62 := NB172_168.out
      have hnc62 := NB168_172.out
      have hnb63 := NB172_171.out
      have hnc63 := NB171_172.out
      have hcz64_0 : wr.cell? ⟨gb172, 0, none⟩ = some (.int .i64 ((rd_T42 l0_3 (ji4)).f0)) := (blk_cell BK172.out 0).trans rfl
      have hcz64_1 : wr.cell? ⟨gb172, 1, none⟩ = some (.int .i64 ((rd_T42 l0_3 (ji4)).f1)) := (blk_cell BK172.out 1).trans rfl
      have hfz64_0 := blk_frozen BK172.out 0
      have hfz64_1 := blk_frozen BK172.out 1
      have hnb65 := NB168_171.out
      have hnc65 := NB171_168.out
      have hcz66_0 : wr.cell? ⟨gb168, 0, none⟩ = some (.int .i64 x169000_1) := (blk_cell BK168.out 0).trans rfl
      have hcz66_1 : wr.cell? ⟨gb168, 1, none⟩ = some (.int .i64 x169001_1) := (blk_cell BK168.out 1).trans rfl
      have hfz66_0 := blk_frozen BK168.out 0
      have hfz66_1 := blk_frozen BK168.out 1
      go_wp2
      refine bodyPost_ret (results_cell_row rfl _ _ gb168 34 #[.int .i64 ((rd_T42 l0_3 (ji4)).f1), .int .i64 ((rd_T42 l0_3 (ji4)).f1)] (0, 0) _ rfl (by (with_reducible repeat (first | refine blk_drewN ?_ _ | refine blk_drew ?_ | refine blk_alloc ?_ _)); refine blk_put (cs := #[.int .i64 ((rd_T42 l0_3 (ji4)).f1), .int .i64 x169001_1]) ?_ 1 _ rfl; (with_reducible repeat (first | refine blk_drewN ?_ _ | refine blk_drew ?_ | refine blk_alloc ?_ _)); refine blk_put (cs := #[.int .i64 x169000_1, .int .i64 x169001_1]) ?_ 0 _ rfl; (with_reducible repeat (first | refine blk_drewN ?_ _ | refine blk_drew ?_ | refine blk_alloc ?_ _)); exact BK168.out) Try.underlying34 rfl (by kernel_rfl)) rfl ?_
      exact ⟨by first | rfl | (simp [errW_none, errW_some] <;> rfl) | (simp only [← hji4]; first | rfl | (simp [errW_none, errW_some] <;> rfl)) | (simp [*, errW_none, errW_some] <;> rfl), xh HB⟩
 ·
  rw [if_neg c3] at H
  exact absurd H (by simp)

end Go.Proofs.Ytbiempkdfnfpgaa.PA
