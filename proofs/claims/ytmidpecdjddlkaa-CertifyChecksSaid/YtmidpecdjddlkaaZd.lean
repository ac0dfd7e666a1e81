/- Lemmas for the proofs of this seat's statements, part 4; each holds without conditions beyond its own premises. -/
import Derived.Test.YtmidpecdjddlkaaZc
/- What the program's Drop and Flow answer. -/
namespace Go.Vi.A
theorem lfind {α β : Type} {xs : List α} (p : α → Bool) {L : Nat → Nat → Option β} {k1 : α → Option β} {k0 : Option β} (hend : ∀ n, L (n + 1) xs.length = k0)
    (hstep : ∀ i x, xs[i]? = some x → ∀ n, L (n + 1) i = if p x = true then k1 x else L n (i + 1)) :
    ∀ n i, i ≤ xs.length → xs.length < n + i → L n i = match (xs.drop i).find? p with | some x => k1 x | none => k0 := by
  intro n
  induction n with
  | zero => intro i h1 h2; omega
  | succ n ih =>
    intro i h1 h2
    by_cases c : i = xs.length
    · subst c
      rw [hend, List.drop_of_length_le (Nat.le_refl _)]; rfl
    · have hi : i < xs.length := by omega
      rw [hstep i xs[i] (List.getElem?_eq_getElem hi), List.drop_eq_getElem_cons hi, ih (i + 1) (by omega) (by omega)]
      simp only [List.find?_cons]
      cases p xs[i] <;> rfl
theorem pipesF_find (dz : DS) (fz : FS) {t : Nat} {r : Ro} (hc : r.2.2.2.2.2.1 = false) : ∀ (l : List Ro) (i : Nat), i ≤ t → l[t - i]? = some r → (pipesF dz fz i l).find? (fun x => decide (x.2.1 = (t : Int))) = some (pOf dz fz t r)
  | [], i, _, h => by simp at h
  | a :: l, i, hi, h => by
    simp only [pipesF]
    by_cases e : t = i
    · subst e
      simp only [Nat.sub_self, List.getElem?_cons_zero, Option.some.injEq] at h
      subst h
      rw [if_neg (by rw [hc]; decide)]
      simp [pOf]
    · have h' : l[t - (i + 1)]? = some r := by
        rw [show t - i = (t - (i + 1)) + 1 by omega] at h
        simpa using h
      have ih := pipesF_find dz fz hc l (i + 1) (by omega) h'
      split
      · exact ih
      · rw [List.find?_cons_of_neg, ih]
        show ¬ decide (((i : Nat) : Int) = (t : Int)) = true
        rw [decide_eq_true_eq]; omega
theorem pOf_closed (dz : DS) (fz : FS) (i : Int) (r : Ro) : (pOf dz fz i r).1.2.2.2.2.2.1 = r.2.2.2.2.2.1 := rfl
end Go.Vi.A
namespace Go.Vi.B
open Go.Proofs Go.Vi.A
set_option linter.unusedVariables false
set_option linter.unusedSimpArgs false
variable {β : Type} {N : Nat} (hN : 1000 ≤ N)
theorem pOf_ok {pl : List Pl} {ro : List Ro} {fa : List Fa} {dr : List Do} (h : AirOk pl ro fa dr) (sf sd : List Int) (i : Int) {r : Ro} (hr : r ∈ ro) : PipeOk (pOf (dr.zip sd) (fa.zip sf) i r) := by
  refine ⟨rOf_bd h sd i hr, (h.road r hr).lift, ?_, fun x hx => ?_⟩
  · exact Nat.le_trans (List.length_filter_le _ _) (by rw [List.length_zip]; have := h.nfa; omega)
  · have hx := (List.of_mem_zip (List.mem_filter.1 hx).1).1
    exact (h.fan _ hx).1
end Go.Vi.B
/- minecontrol/branch.Fits -/
namespace Go.Vi.B
open Go.Proofs
set_option linter.unusedVariables false
set_option maxRecDepth 100000
abbrev F21.i : Sh := [(0, .agg [.lst .frz 62 kd1, .lst .frz 71 kd8, .lst .frz 100 kd11, .lst .frz 55 kd13]), (2, .agg [.lst .frz 3 .i, .lst .frz 3 .i]), (4, .agg [.lst .frz 3 .i, .lst .frz 3 .i])]
abbrev F21.o0 : Sh := [(0, .one .i)]
noncomputable def F21.l9 {β : Type} (N : Nat) : Nat → (List Pl) → (List Ro) → (List Fa) → (List Do) → (List Int) → (List Int) → (List Int) → (List Int) → Int → (List Int) → Int → Int → (Int → Option β) → (List Pl → List Ro → List Fa → List Do → List Int → List Int → List Int → List Int → Int → List Int → Int → Int → Bool → Option β) → Option β
 | 0, _, _, _, _, _, _, _, _, _, _, _, _, _, _ => none
 | n + 1, v0, v1, v2, v3, v4, v5, v6, v7, v8, v9, v10, v11, k0, k1 =>
  bl (v11 < v10) (k1 v0 v1 v2 v3 v4 v5 v6 v7 v8 v9 v10 v11 (decide (v11 < v10))) <|
  ck (0 ≤ v11) <|
  ge (v9[v11.toNat]?) fun x1 =>
  br (x1 < (-70368744177664)) (k0 1) <|
  br (x1 > 70368744177664) (k0 1) <|
  F21.l9 N n v0 v1 v2 v3 v4 v5 v6 v7 v8 v9 v10 (w (v11 + 1)) k0 k1
noncomputable def F21.l15 {β : Type} (N : Nat) : Nat → (List Pl) → (List Ro) → (List Fa) → (List Do) → (List Int) → (List Int) → (List Int) → (List Int) → Int → (List Int) → Int → Int → (Int → Option β) → (List Pl → List Ro → List Fa → List Do → List Int → List Int → List Int → List Int → Int → List Int → Int → Int → Bool → Option β) → Option β
 | 0, _, _, _, _, _, _, _, _, _, _, _, _, _, _ => none
 | n + 1, v0, v1, v2, v3, v4, v5, v6, v7, v8, v9, v10, v11, k0, k1 =>
  bl (v11 < v10) (k1 v0 v1 v2 v3 v4 v5 v6 v7 v8 v9 v10 v11 (decide (v11 < v10))) <|
  ck (0 ≤ v11) <|
  ge (v9[v11.toNat]?) fun x1 =>
  br (x1 < (-1048576)) (k0 1) <|
  br (x1 > 1048576) (k0 1) <|
  F21.l15 N n v0 v1 v2 v3 v4 v5 v6 v7 v8 v9 v10 (w (v11 + 1)) k0 k1
noncomputable def F21.l22 {β : Type} (N : Nat) : Nat → (List Pl) → (List Ro) → (List Fa) → (List Do) → (List Int) → (List Int) → (List Int) → (List Int) → Int → (List Int) → (List Ro) → Int → Int → (Int → Option β) → (List Pl → List Ro → List Fa → List Do → List Int → List Int → List Int → List Int → Int → List Int → List Ro → Int → Int → Bool → Option β) → Option β
 | 0, _, _, _, _, _, _, _, _, _, _, _, _, _, _, _ => none
 | n + 1, v0, v1, v2, v3, v4, v5, v6, v7, v8, v9, v10, v11, v12, k0, k1 =>
  bl (v12 < v11) (k1 v0 v1 v2 v3 v4 v5 v6 v7 v8 v9 v10 v11 v12 (decide (v12 < v11))) <|
  ck (0 ≤ v12) <|
  ge (v10[v12.toNat]?) fun x1 =>
  bl (x1.2.2.2.2.2.1) (
   ck (0 ≤ x1.1) <|
   ge (v9[x1.1.toNat]?) fun _ =>
   ge (v9[x1.1.toNat]?) fun x14 =>
   ck (0 ≤ v12) <|
   ge (v7[v12.toNat]?) fun x15 =>
   ck (0 ≤ x1.1) <|
   ge (v9[x1.1.toNat]?) fun _ =>
   ge (v9[x1.1.toNat]?) fun _ =>
   ck (0 ≤ x1.2.1) <|
   ge ((v9.set x1.1.toNat (w (x14 + x15)))[x1.2.1.toNat]?) fun _ =>
   ge ((v9.set x1.1.toNat (w (x14 + x15)))[x1.2.1.toNat]?) fun x19 =>
   ck (0 ≤ v12) <|
   ge (v7[v12.toNat]?) fun x20 =>
   ck (0 ≤ x1.2.1) <|
   ge ((v9.set x1.1.toNat (w (x14 + x15)))[x1.2.1.toNat]?) fun _ =>
   ge ((v9.set x1.1.toNat (w (x14 + x15)))[x1.2.1.toNat]?) fun _ =>
   F21.l22 N n v0 v1 v2 v3 v4 v5 v6 v7 v8 ((v9.set x1.1.toNat (w (x14 + x15))).set x1.2.1.toNat (w (x19 - x20))) v10 v11 (w (v12 + 1)) k0 k1) <|
  ck (0 ≤ v12) <|
  ge (v7[v12.toNat]?) fun x2 =>
  br (x2 != 0) (k0 10) <|
  ck (0 ≤ x1.1) <|
  ge (v9[x1.1.toNat]?) fun _ =>
  ge (v9[x1.1.toNat]?) fun x4 =>
  ck (0 ≤ v12) <|
  ge (v7[v12.toNat]?) fun x5 =>
  ck (0 ≤ x1.1) <|
  ge (v9[x1.1.toNat]?) fun _ =>
  ge (v9[x1.1.toNat]?) fun _ =>
  ck (0 ≤ x1.2.1) <|
  ge ((v9.set x1.1.toNat (w (x4 + x5)))[x1.2.1.toNat]?) fun _ =>
  ge ((v9.set x1.1.toNat (w (x4 + x5)))[x1.2.1.toNat]?) fun x9 =>
  ck (0 ≤ v12) <|
  ge (v7[v12.toNat]?) fun x10 =>
  ck (0 ≤ x1.2.1) <|
  ge ((v9.set x1.1.toNat (w (x4 + x5)))[x1.2.1.toNat]?) fun _ =>
  ge ((v9.set x1.1.toNat (w (x4 + x5)))[x1.2.1.toNat]?) fun _ =>
  F21.l22 N n v0 v1 v2 v3 v4 v5 v6 v7 v8 ((v9.set x1.1.toNat (w (x4 + x5))).set x1.2.1.toNat (w (x9 - x10))) v10 v11 (w (v12 + 1)) k0 k1
noncomputable def F21.l30 {β : Type} (N : Nat) : Nat → (List Pl) → (List Ro) → (List Fa) → (List Do) → (List Int) → (List Int) → (List Int) → (List Int) → Int → (List Int) → (List Pl) → Int → Int → (Int → Option β) → (List Pl → List Ro → List Fa → List Do → List Int → List Int → List Int → List Int → Int → List Int → List Pl → Int → Int → Bool → Option β) → Option β
 | 0, _, _, _, _, _, _, _, _, _, _, _, _, _, _, _ => none
 | n + 1, v0, v1, v2, v3, v4, v5, v6, v7, v8, v9, v10, v11, v12, k0, k1 =>
  bl (v12 < v11) (k1 v0 v1 v2 v3 v4 v5 v6 v7 v8 v9 v10 v11 v12 (decide (v12 < v11))) <|
  ck (0 ≤ v12) <|
  ge (v10[v12.toNat]?) fun x1 =>
  bl (x1.2) (
   bl (!x1.2) (F21.l30 N n v0 v1 v2 v3 v4 v5 v6 v7 v8 v9 v10 v11 (w (v12 + 1)) k0 k1) <|
   ck (0 ≤ v12) <|
   ge (v9[v12.toNat]?) fun _ =>
   ge (v9[v12.toNat]?) fun x6 =>
   br (x6 != 0) (k0 10) <|
   F21.l30 N n v0 v1 v2 v3 v4 v5 v6 v7 v8 v9 v10 v11 (w (v12 + 1)) k0 k1) <|
  ck (0 ≤ v12) <|
  ge (v6[v12.toNat]?) fun x2 =>
  br (x2 != 0) (k0 10) <|
  bl (!x1.2) (F21.l30 N n v0 v1 v2 v3 v4 v5 v6 v7 v8 v9 v10 v11 (w (v12 + 1)) k0 k1) <|
  ck (0 ≤ v12) <|
  ge (v9[v12.toNat]?) fun _ =>
  ge (v9[v12.toNat]?) fun x4 =>
  br (x4 != 0) (k0 10) <|
  F21.l30 N n v0 v1 v2 v3 v4 v5 v6 v7 v8 v9 v10 v11 (w (v12 + 1)) k0 k1
noncomputable def F21.l36 {β : Type} (N : Nat) : Nat → (List Int) → (List Int) → Int → (List (Ro × (Int × (List (Fa × Int))))) → (List (Option (List Int))) → Int → Int → (Int → Option β) → (List Int → List Int → Int → (List (Ro × (Int × (List (Fa × Int))))) → (List (Option (List Int))) → Int → Int → Bool → Option β) → Option β
 | 0, _, _, _, _, _, _, _, _, _ => none
 | n + 1, v0, v1, v2, v3, v4, v5, v6, k0, k1 =>
  bl (v6 < v5) (k1 v0 v1 v2 v3 v4 v5 v6 (decide (v6 < v5))) <|
  ck (0 ≤ v6) <|
  ge (v3[v6.toNat]?) fun _ =>
  ge (v3[v6.toNat]?) fun x2 =>
  ck (0 ≤ x2.1.1) <|
  ge (v0[x2.1.1.toNat]?) fun x3 =>
  ck (0 ≤ x2.1.2.1) <|
  ge (v0[x2.1.2.1.toNat]?) fun x4 =>
  ck (0 ≤ x2.2.1) <|
  ge (v1[x2.2.1.toNat]?) fun x5 =>
  F49.C N x2.1.1 x2.1.2.1 x2.1.2.2.1 x2.1.2.2.2.1 x2.1.2.2.2.2.1 x2.1.2.2.2.2.2.1 x2.1.2.2.2.2.2.2.1.1 x2.1.2.2.2.2.2.2.1.2 x2.1.2.2.2.2.2.2.2.1 x2.1.2.2.2.2.2.2.2.2 x2.2.1 x2.2.2 x5 fun r6 r7 =>
  br ((w (x3 - x4)) < r6) (k0 10) <|
  br ((w (x3 - x4)) > r7) (k0 10) <|
  F21.l36 N n v0 v1 v2 v3 v4 v5 (w (v6 + 1)) k0 k1
noncomputable def F21.K {β : Type} (N : Nat) (a0 : List Pl) (a1 : List Ro) (a2 : List Fa) (a3 : List Do) (a4 a5 a6 a7 : List Int) (k0 : Int → Option β) : Option β :=
 F30.C N a0 a1 a2 a3 fun r1 =>
 br (r1 != 0) (k0 r1) <|
 F31.C N a0 a1 a2 a3 a4 a5 fun r2 =>
 br (!r2) (k0 21) <|
 br ((a6.length : Int) != (a0.length : Int)) (k0 11) <|
 br ((a7.length : Int) != (a1.length : Int)) (k0 11) <|
 F21.l9 N N a0 a1 a2 a3 a4 a5 a6 a7 0 a6 (a6.length : Int) 0 (fun z3 => k0 z3) fun z4 z5 z6 z7 z8 z9 z10 z11 z12 _ _ _ _ =>
 F21.l15 N N z4 z5 z6 z7 z8 z9 z10 z11 z12 z11 (z11.length : Int) 0 (fun z17 => k0 z17) fun z18 z19 z20 z21 z22 z23 z24 z25 z26 _ _ _ _ =>
 ck ((z18.length : Int) = (z18.length : Int)) <|
 ck (0 ≤ (z18.length : Int)) <|
 ck ((z18.length : Int) ≤ 1000000000) <|
 F21.l22 N N z18 z19 z20 z21 z22 z23 z24 z25 z26 (List.replicate (Int.toNat (z18.length : Int)) (0 : Int)) z19 (z19.length : Int) 0 (fun z31 => k0 z31) fun z32 z33 z34 z35 z36 z37 z38 z39 z40 z41 _ _ _ _ =>
 F21.l30 N N z32 z33 z34 z35 z36 z37 z38 z39 z40 z41 z32 (z32.length : Int) 0 (fun z46 => k0 z46) fun z47 z48 z49 z50 z51 z52 z53 z54 z55 _ _ _ _ _ =>
 F33.C N z47 z48 z49 z50 z51 z52 fun r61 r62 =>
 F21.l36 N N z53 z54 z55 r61 r62 (r61.length : Int) 0 (fun z63 => k0 z63) fun _ _ _ _ _ _ _ _ =>
 k0 0
noncomputable def F21.fx : Fx := ⟨Try.prog, [], [], [(0,[3,4,5,6]),(1,[3,4,5,6,7]),(2,[3,4,5,6,7,24]),(3,[6]),(4,[3,4,5,6,29]),(5,[6]),(6,[3,4,5,6,47]),(7,[6]),(8,[3,4,5,6,49,50,51]),(9,[3,4,5,6,49,50,51,52]),(10,[3,4,5,6,9,49,50,51]),(11,[3,4,5,6,49,50,51,60]),(12,[6]),(13,[3,4,5,6,49,50,51]),(14,[3,4,5,6,63,64,65]),(15,[3,4,5,6,63,64,65,66]),(16,[3,4,5,6,11,63,64,65]),(17,[3,4,5,6,63,64,65,74]),(18,[6]),(19,[3,4,5,6,63,64,65]),(20,[3,4,5,6,12]),(21,[3,4,5,6,12,83,84,85]),(22,[3,4,5,6,12,83,84,85,86]),(23,[3,4,5,6,12,13,14,83,84,85]),(24,[3,4,5,6,12,13,14,83,84,85,99]),(25,[6]),(26,[3,4,5,6,12,13,14,83,84,85]),(27,[3,4,5,6,12,83,84,85]),(28,[3,4,5,6,12,83,84,85]),(29,[3,4,5,6,12,127,128,129]),(30,[3,4,5,6,12,127,128,129,130]),(31,[3,4,5,6,12,15,16,127,128,129]),(32,[3,4,5,6,12,127,128,129,155]),(33,[6]),(34,[3,4,5,6,12,127,128,129]),(35,[5,6,160,161,162]),(36,[5,6,160,161,162,163]),(37,[5,6,18,160,161,162]),(38,[5,6,18,19,160,161,162]),(39,[5,6,19,20,160,161,162]),(40,[5,6,160,161,162,198]),(41,[6]),(42,[5,6,160,161,162]),(43,[6])], 200, []⟩
noncomputable def F21.cs (N : Nat) : List (Ctr Try.prog) := [F30.X N, F31.X N, F33.X N, F49.X N]
abbrev F21.s9 : Sh := [(6, .one (.addr 3 0)), (7, .slot false [.lst .frz 62 kd1, .lst .frz 71 kd8, .lst .frz 100 kd11, .lst .frz 55 kd13]), (8, .one (.addr 4 0)), (9, .slot false [.lst .frz 3 .i, .lst .frz 3 .i]), (10, .one (.addr 5 0)), (11, .slot false [.lst .frz 3 .i, .lst .frz 3 .i]), (12, .one .i), (98, .one (.lst .frz 3 .i)), (100, .one .i), (102, .one .i)]
abbrev F21.e9_0 : Sh := [(12, .one .i)]
abbrev F21.e9_1 : Sh := [(6, .one (.addr 3 0)), (7, .slot false [.lst .frz 62 kd1, .lst .frz 71 kd8, .lst .frz 100 kd11, .lst .frz 55 kd13]), (8, .one (.addr 4 0)), (9, .slot false [.lst .frz 3 .i, .lst .frz 3 .i]), (10, .one (.addr 5 0)), (11, .slot false [.lst .frz 3 .i, .lst .frz 3 .i]), (12, .one .i), (98, .one (.lst .frz 3 .i)), (100, .one .i), (102, .one .i), (104, .one .bool)]
noncomputable def F21.X9 (N : Nat) : LpC Try.prog F21.fx := mkL (F21.cs N) [] ((loopsOf (bodyOf Try.f21)).getD 0 .skip) 9 [3,4,5,6,49,50,51] (by kernel_rfl) (by kernel_rfl) (by kernel_rfl) F21.s9 (fun n x k => F21.l9 N n x.1 x.2.1 x.2.2.1 x.2.2.2.1 x.2.2.2.2.1 x.2.2.2.2.2.1 x.2.2.2.2.2.2.1 x.2.2.2.2.2.2.2.1 x.2.2.2.2.2.2.2.2.1 x.2.2.2.2.2.2.2.2.2.1 x.2.2.2.2.2.2.2.2.2.2.1 x.2.2.2.2.2.2.2.2.2.2.2.1 (fun r0 => k (.ret) (Sh.mk F21.e9_0 (r0, ()))) (fun r0 r1 r2 r3 r4 r5 r6 r7 r8 r9 r10 r11 r12 => k (.exit 0) (Sh.mk F21.e9_1 (r0, r1, r2, r3, r4, r5, r6, r7, r8, r9, r10, r11, r12, ())))) (fun _ _ => rfl) (fun _ _ _ => by kernel_rfl) N
abbrev F21.s15 : Sh := [(6, .one (.addr 3 0)), (7, .slot false [.lst .frz 62 kd1, .lst .frz 71 kd8, .lst .frz 100 kd11, .lst .frz 55 kd13]), (8, .one (.addr 4 0)), (9, .slot false [.lst .frz 3 .i, .lst .frz 3 .i]), (10, .one (.addr 5 0)), (11, .slot false [.lst .frz 3 .i, .lst .frz 3 .i]), (12, .one .i), (126, .one (.lst .frz 3 .i)), (128, .one .i), (130, .one .i)]
abbrev F21.e15_0 : Sh := [(12, .one .i)]
abbrev F21.e15_1 : Sh := [(6, .one (.addr 3 0)), (7, .slot false [.lst .frz 62 kd1, .lst .frz 71 kd8, .lst .frz 100 kd11, .lst .frz 55 kd13]), (8, .one (.addr 4 0)), (9, .slot false [.lst .frz 3 .i, .lst .frz 3 .i]), (10, .one (.addr 5 0)), (11, .slot false [.lst .frz 3 .i, .lst .frz 3 .i]), (12, .one .i), (126, .one (.lst .frz 3 .i)), (128, .one .i), (130, .one .i), (132, .one .bool)]
noncomputable def F21.X15 (N : Nat) : LpC Try.prog F21.fx := mkL (F21.cs N) [] ((loopsOf (bodyOf Try.f21)).getD 1 .skip) 15 [3,4,5,6,63,64,65] (by kernel_rfl) (by kernel_rfl) (by kernel_rfl) F21.s15 (fun n x k => F21.l15 N n x.1 x.2.1 x.2.2.1 x.2.2.2.1 x.2.2.2.2.1 x.2.2.2.2.2.1 x.2.2.2.2.2.2.1 x.2.2.2.2.2.2.2.1 x.2.2.2.2.2.2.2.2.1 x.2.2.2.2.2.2.2.2.2.1 x.2.2.2.2.2.2.2.2.2.2.1 x.2.2.2.2.2.2.2.2.2.2.2.1 (fun r0 => k (.ret) (Sh.mk F21.e15_0 (r0, ()))) (fun r0 r1 r2 r3 r4 r5 r6 r7 r8 r9 r10 r11 r12 => k (.exit 2) (Sh.mk F21.e15_1 (r0, r1, r2, r3, r4, r5, r6, r7, r8, r9, r10, r11, r12, ())))) (fun _ _ => rfl) (fun _ _ _ => by kernel_rfl) N
abbrev F21.s22 : Sh := [(6, .one (.addr 3 0)), (7, .slot false [.lst .frz 62 kd1, .lst .frz 71 kd8, .lst .frz 100 kd11, .lst .frz 55 kd13]), (8, .one (.addr 4 0)), (9, .slot false [.lst .frz 3 .i, .lst .frz 3 .i]), (10, .one (.addr 5 0)), (11, .slot false [.lst .frz 3 .i, .lst .frz 3 .i]), (12, .one .i), (24, .one (.view 12 0)), (25, .slot true [.lst .own 3 .i]), (166, .one (.lst .frz 71 kd8)), (168, .one .i), (170, .one .i)]
abbrev F21.e22_0 : Sh := [(12, .one .i)]
abbrev F21.e22_1 : Sh := [(6, .one (.addr 3 0)), (7, .slot false [.lst .frz 62 kd1, .lst .frz 71 kd8, .lst .frz 100 kd11, .lst .frz 55 kd13]), (8, .one (.addr 4 0)), (9, .slot false [.lst .frz 3 .i, .lst .frz 3 .i]), (10, .one (.addr 5 0)), (11, .slot false [.lst .frz 3 .i, .lst .frz 3 .i]), (12, .one .i), (24, .one (.view 12 0)), (25, .slot true [.lst .own 3 .i]), (166, .one (.lst .frz 71 kd8)), (168, .one .i), (170, .one .i), (172, .one .bool)]
noncomputable def F21.X22 (N : Nat) : LpC Try.prog F21.fx := mkL (F21.cs N) [] ((loopsOf (bodyOf Try.f21)).getD 2 .skip) 22 [3,4,5,6,12,83,84,85] (by kernel_rfl) (by kernel_rfl) (by kernel_rfl) F21.s22 (fun n x k => F21.l22 N n x.1 x.2.1 x.2.2.1 x.2.2.2.1 x.2.2.2.2.1 x.2.2.2.2.2.1 x.2.2.2.2.2.2.1 x.2.2.2.2.2.2.2.1 x.2.2.2.2.2.2.2.2.1 x.2.2.2.2.2.2.2.2.2.1 x.2.2.2.2.2.2.2.2.2.2.1 x.2.2.2.2.2.2.2.2.2.2.2.1 x.2.2.2.2.2.2.2.2.2.2.2.2.1 (fun r0 => k (.ret) (Sh.mk F21.e22_0 (r0, ()))) (fun r0 r1 r2 r3 r4 r5 r6 r7 r8 r9 r10 r11 r12 r13 => k (.exit 4) (Sh.mk F21.e22_1 (r0, r1, r2, r3, r4, r5, r6, r7, r8, r9, r10, r11, r12, r13, ())))) (fun _ _ => rfl) (fun _ _ _ => by kernel_rfl) N
abbrev F21.s30 : Sh := [(6, .one (.addr 3 0)), (7, .slot false [.lst .frz 62 kd1, .lst .frz 71 kd8, .lst .frz 100 kd11, .lst .frz 55 kd13]), (8, .one (.addr 4 0)), (9, .slot false [.lst .frz 3 .i, .lst .frz 3 .i]), (10, .one (.addr 5 0)), (11, .slot false [.lst .frz 3 .i, .lst .frz 3 .i]), (12, .one .i), (24, .one (.view 12 0)), (25, .slot true [.lst .own 3 .i]), (254, .one (.lst .frz 62 kd1)), (256, .one .i), (258, .one .i)]
abbrev F21.e30_0 : Sh := [(12, .one .i)]
abbrev F21.e30_1 : Sh := [(6, .one (.addr 3 0)), (7, .slot false [.lst .frz 62 kd1, .lst .frz 71 kd8, .lst .frz 100 kd11, .lst .frz 55 kd13]), (8, .one (.addr 4 0)), (9, .slot false [.lst .frz 3 .i, .lst .frz 3 .i]), (10, .one (.addr 5 0)), (11, .slot false [.lst .frz 3 .i, .lst .frz 3 .i]), (12, .one .i), (24, .one (.view 12 0)), (25, .slot true [.lst .own 3 .i]), (254, .one (.lst .frz 62 kd1)), (256, .one .i), (258, .one .i), (260, .one .bool)]
noncomputable def F21.X30 (N : Nat) : LpC Try.prog F21.fx := mkL (F21.cs N) [] ((loopsOf (bodyOf Try.f21)).getD 3 .skip) 30 [3,4,5,6,12,127,128,129] (by kernel_rfl) (by kernel_rfl) (by kernel_rfl) F21.s30 (fun n x k => F21.l30 N n x.1 x.2.1 x.2.2.1 x.2.2.2.1 x.2.2.2.2.1 x.2.2.2.2.2.1 x.2.2.2.2.2.2.1 x.2.2.2.2.2.2.2.1 x.2.2.2.2.2.2.2.2.1 x.2.2.2.2.2.2.2.2.2.1 x.2.2.2.2.2.2.2.2.2.2.1 x.2.2.2.2.2.2.2.2.2.2.2.1 x.2.2.2.2.2.2.2.2.2.2.2.2.1 (fun r0 => k (.ret) (Sh.mk F21.e30_0 (r0, ()))) (fun r0 r1 r2 r3 r4 r5 r6 r7 r8 r9 r10 r11 r12 r13 => k (.exit 6) (Sh.mk F21.e30_1 (r0, r1, r2, r3, r4, r5, r6, r7, r8, r9, r10, r11, r12, r13, ())))) (fun _ _ => rfl) (fun _ _ _ => by kernel_rfl) N
abbrev F21.s36 : Sh := [(10, .one (.addr 5 0)), (11, .slot false [.lst .frz 3 .i, .lst .frz 3 .i]), (12, .one .i), (319, .slot true [.lst .own 91 kd16, .lst .own 23 (.ow 3 .i)]), (320, .one (.view 159 0)), (322, .one .i), (324, .one .i)]
abbrev F21.e36_0 : Sh := [(12, .one .i)]
abbrev F21.e36_1 : Sh := [(10, .one (.addr 5 0)), (11, .slot false [.lst .frz 3 .i, .lst .frz 3 .i]), (12, .one .i), (319, .slot true [.lst .own 91 kd16, .lst .own 23 (.ow 3 .i)]), (320, .one (.view 159 0)), (322, .one .i), (324, .one .i), (326, .one .bool)]
noncomputable def F21.X36 (N : Nat) : LpC Try.prog F21.fx := mkL (F21.cs N) [] ((loopsOf (bodyOf Try.f21)).getD 4 .skip) 36 [5,6,160,161,162] (by kernel_rfl) (by kernel_rfl) (by kernel_rfl) F21.s36 (fun n x k => F21.l36 N n x.1 x.2.1 x.2.2.1 x.2.2.2.1 x.2.2.2.2.1 x.2.2.2.2.2.1 x.2.2.2.2.2.2.1 (fun r0 => k (.ret) (Sh.mk F21.e36_0 (r0, ()))) (fun r0 r1 r2 r3 r4 r5 r6 r7 => k (.exit 8) (Sh.mk F21.e36_1 (r0, r1, r2, r3, r4, r5, r6, r7, ())))) (fun _ _ => rfl) (fun _ _ _ => by kernel_rfl) N
noncomputable def F21.C {β : Type} (N : Nat) := (Sealed fun β => @F21.K β).1 β N
theorem F21.C_eq {β : Type} (N : Nat) : @F21.C β N = @F21.K β N := congrFun (congrFun (Sealed fun β => @F21.K β).2 β) N
noncomputable def F21.X (N : Nat) : Ctr Try.prog := mkF 21 Try.f21 F21.fx (F21.cs N) [F21.X9 N, F21.X15 N, F21.X22 N, F21.X30 N, F21.X36 N] F21.i (fun x k => F21.C N x.1 x.2.1 x.2.2.1 x.2.2.2.1 x.2.2.2.2.1 x.2.2.2.2.2.1 x.2.2.2.2.2.2.1 x.2.2.2.2.2.2.2.1 (fun r0 => k (Sh.mk F21.o0 (r0, ())))) (by intros; rw [F21.C_eq]; kernel_rfl) (by kernel_rfl) (by kernel_rfl) (by kernel_rfl) (by kernel_rfl) rfl (by kernel_rfl) rfl (by kernel_rfl) (by kernel_rfl) (by kernel_rfl) (.dead _ 21) rfl
end Go.Vi.B
/- Which states fit: the program and its reference say the same. -/
namespace Go.Vi.A
abbrev QS := List (Ro × Int)
/-- What leaves a place, less what comes. -/
def netF : QS → Int → Int
  | [], _ => 0
  | x :: t, p => (if x.1.1 = p then x.2 else 0) - (if x.1.2.1 = p then x.2 else 0) + netF t p
theorem netF_append : ∀ (a b : QS) (p : Int), netF (a ++ b) p = netF a p + netF b p
  | [], b, p => by simp [netF]
  | x :: t, b, p => by simp only [List.cons_append, netF, netF_append t b p]; omega
theorem netF_take {z : QS} {j : Nat} {x : Ro × Int} (h : z[j]? = some x) (p : Int) : netF (z.take (j + 1)) p = netF (z.take j) p + ((if x.1.1 = p then x.2 else 0) - (if x.1.2.1 = p then x.2 else 0)) := by
  rw [take_snoc h, netF_append]; simp only [netF]; omega
theorem netF_bd {M : Int} (hM : 0 ≤ M) : ∀ (z : QS) (n : Nat) (p : Int), (∀ x ∈ z, -M ≤ x.2 ∧ x.2 ≤ M) → z.length ≤ n → -(2 * M * n) ≤ netF z p ∧ netF z p ≤ 2 * M * n
  | [], n, p, _, _ => by
    have := Int.mul_nonneg (show 0 ≤ 2 * M by omega) (show (0 : Int) ≤ n by omega)
    simp only [netF]; omega
  | x :: t, 0, p, _, hl => by simp at hl
  | x :: t, n + 1, p, h, hl => by
    have ih := netF_bd hM t n p (fun y hy => h y (List.mem_cons_of_mem _ hy)) (by simp at hl; omega)
    have hx := h x List.mem_cons_self
    have e : 2 * M * ((n + 1 : Nat) : Int) = 2 * M * n + 2 * M := by rw [Int.natCast_add, Int.mul_add]; simp
    rw [e]
    simp only [netF]; split <;> split <;> omega
def prE (_ : Nat) (x : Int) : Int := if x < -70368744177664 then 1 else if x > 70368744177664 then 1 else 0
def flE (_ : Nat) (x : Int) : Int := if x < -1048576 then 1 else if x > 1048576 then 1 else 0
def cloE (xq : List Int) (i : Nat) (r : Ro) : Int := if r.2.2.2.2.2.1 = true then if xq.getD i 0 = 0 then 0 else 10 else 0
def outE (d : Int) (s : Sp) : Int := if d < s.1 then 10 else if d > s.2 then 10 else 0
def droE (dz : DS) (fz : FS) (xp xq : List Int) (i : Nat) (r : Ro) : Int := if r.2.2.2.2.2.1 = true then 0 else outE (xp.getD r.1.toNat 0 - xp.getD r.2.1.toNat 0) (drop dz fz i r (xq.getD i 0))
def cdE (dz : DS) (fz : FS) (xp xq : List Int) (i : Nat) (r : Ro) : Int := if r.2.2.2.2.2.1 = true then if xq.getD i 0 = 0 then 0 else 10 else outE (xp.getD r.1.toNat 0 - xp.getD r.2.1.toNat 0) (drop dz fz i r (xq.getD i 0))
def sumE (z : QS) (xp : List Int) (i : Nat) (p : Pl) : Int := if p.2 = true then if xp.getD i 0 = 0 then 0 else 10 else if netF z i = 0 then 0 else 10
def stE (pl : List Pl) (ro : List Ro) (dz : DS) (fz : FS) (xp xq : List Int) : Int :=
  if (xp.length : Int) = (pl.length : Int) then if (xq.length : Int) = (ro.length : Int) then thn (ferr prE 0 xp) (thn (ferr flE 0 xq) (thn (ferr (cloE xq) 0 ro) (thn (ferr (sumE (ro.zip xq) xp) 0 pl) (ferr (droE dz fz xp xq) 0 ro)))) else 11 else 11
/-- Whether a state fits. -/
def fitsE (pl : List Pl) (ro : List Ro) (fa : List Fa) (dr : List Do) (sf sd xp xq : List Int) : Int :=
  thn (airE pl ro fa dr) (if fitE fa dr sf sd = 0 then stE pl ro (dr.zip sd) (fa.zip sf) xp xq else 21)
theorem thn_10 {a b : Int} (ha : a = 0 ∨ a = 10) (hb : b = 0 ∨ b = 10) : thn a b = 0 ∨ thn a b = 10 := by
  unfold thn; split
  · exact hb
  · exact ha
theorem eq_10 {a b : Int} (ha : a = 0 ∨ a = 10) (hb : b = 0 ∨ b = 10) (h : a = 0 ↔ b = 0) : a = b := by omega
theorem outE_10 (d : Int) (s : Sp) : outE d s = 0 ∨ outE d s = 10 := by
  unfold outE; split
  · exact .inr rfl
  split
  · exact .inr rfl
  · exact .inl rfl
theorem outE_zero {d : Int} {s : Sp} : outE d s = 0 ↔ s.1 ≤ d ∧ d ≤ s.2 := by
  unfold outE; split
  · constructor
    · intro h; exact absurd h (by decide)
    · omega
  split
  · constructor
    · intro h; exact absurd h (by decide)
    · omega
  · constructor
    · omega
    · omega
theorem st_order (ro : List Ro) (pl : List Pl) (dz : DS) (fz : FS) (xp xq : List Int) (z : QS) :
    thn (ferr (cloE xq) 0 ro) (thn (ferr (sumE z xp) 0 pl) (ferr (droE dz fz xp xq) 0 ro)) = thn (ferr (cdE dz fz xp xq) 0 ro) (ferr (sumE z xp) 0 pl) := by
  have a1 := ferr_val (f := cloE xq) (e := 10) (fun i r => by unfold cloE; split <;> (try split) <;> simp) ro 0
  have a2 := ferr_val (f := sumE z xp) (e := 10) (fun i r => by unfold sumE; split <;> split <;> simp) pl 0
  have a3 := ferr_val (f := droE dz fz xp xq) (e := 10) (fun i r => by
    unfold droE; split
    · simp
    · exact outE_10 _ _) ro 0
  have a4 := ferr_val (f := cdE dz fz xp xq) (e := 10) (fun i r => by
    unfold cdE; split
    · split <;> simp
    · exact outE_10 _ _) ro 0
  refine eq_10 (thn_10 a1 (thn_10 a2 a3)) (thn_10 a4 a2) ?_
  simp only [thn_zero]
  rw [ferr_zero (f := cloE xq), ferr_zero (f := droE dz fz xp xq), ferr_zero (f := cdE dz fz xp xq)]
  have key : ∀ j r, cdE dz fz xp xq j r = 0 ↔ cloE xq j r = 0 ∧ droE dz fz xp xq j r = 0 := fun j r => by
    unfold cdE cloE droE
    cases c : r.2.2.2.2.2.1 with
    | true => simp only [if_true, and_true]
    | false => simp only [Bool.false_eq_true, if_false, true_and]
  constructor
  · rintro ⟨h1, h2, h3⟩
    exact ⟨fun j r hr => (key _ r).2 ⟨h1 j r hr, h3 j r hr⟩, h2⟩
  · rintro ⟨h1, h2⟩
    exact ⟨fun j r hr => ((key _ r).1 (h1 j r hr)).1, h2, fun j r hr => ((key _ r).1 (h1 j r hr)).2⟩
theorem pipes_err (dz : DS) (fz : FS) (xp xq : List Int) : ∀ (l : List Ro) (i k : Nat),
    ferr (fun _ (p : Pi) => outE (xp.getD p.1.1.toNat 0 - xp.getD p.1.2.1.toNat 0) (pdrop p (xq.getD p.2.1.toNat 0))) k (pipesF dz fz i l) = ferr (droE dz fz xp xq) i l
  | [], _, _ => rfl
  | r :: t, i, k => by
    simp only [pipesF, ferr, droE]
    by_cases c : r.2.2.2.2.2.1 = true
    · simp only [if_pos c, if_true]; exact pipes_err dz fz xp xq t (i + 1) k
    · simp only [if_neg c, ferr, pdrop_pOf, pipes_err dz fz xp xq t (i + 1) (k + 1)]
      simp only [pOf, Int.toNat_natCast]
      rfl
theorem pipes_mem {dz : DS} {fz : FS} : ∀ {l : List Ro} {i : Nat} {p : Pi}, p ∈ pipesF dz fz i l → ∃ (j : Nat) (r : Ro), l[j]? = some r ∧ p = pOf dz fz ((i + j : Nat) : Int) r ∧ r.2.2.2.2.2.1 = false
  | [], _, _, h => by cases h
  | r :: t, i, p, h => by
    simp only [pipesF] at h
    by_cases c : r.2.2.2.2.2.1 = true
    · rw [if_pos c] at h
      obtain ⟨j, r', h1, h2, h3⟩ := pipes_mem h
      exact ⟨j + 1, r', h1, by rw [h2, show i + 1 + j = i + (j + 1) by omega], h3⟩
    · rw [if_neg c] at h
      rcases List.mem_cons.1 h with rfl | h
      · exact ⟨0, r, rfl, rfl, by simpa using c⟩
      · obtain ⟨j, r', h1, h2, h3⟩ := pipes_mem h
        exact ⟨j + 1, r', h1, by rw [h2, show i + 1 + j = i + (j + 1) by omega], h3⟩
/-- The sums, a road further. -/
theorem net_set {n : Nat} {z : QS} {j : Nat} {x : Ro × Int} (hz : z[j]? = some x) (f0 : 0 ≤ x.1.1) (t0 : 0 ≤ x.1.2.1) (hne : x.1.1 ≠ x.1.2.1) :
    ((tab n fun p => netF (z.take j) p).set x.1.1.toNat (netF (z.take j) x.1.1 + x.2)).set x.1.2.1.toNat (netF (z.take j) x.1.2.1 - x.2) = tab n fun p => netF (z.take (j + 1)) p := by
  rw [tab_set (fun p => if p = x.1.1.toNat then netF (z.take j) x.1.1 + x.2 else netF (z.take j) p) (if_pos rfl) (fun k _ hn => if_neg hn)]
  refine tab_set _ ?_ fun k hk hn => ?_
  · have e : ((x.1.2.1.toNat : Nat) : Int) = x.1.2.1 := by omega
    rw [netF_take hz, e, if_neg hne, if_pos rfl]; omega
  · rw [netF_take hz]
    by_cases c : k = x.1.1.toNat
    · have e : ((x.1.1.toNat : Nat) : Int) = x.1.1 := by omega
      subst c
      rw [if_pos rfl, e, if_pos rfl, if_neg (by omega)]; omega
    · rw [if_neg c, if_neg (by omega), if_neg (by omega)]; omega
end Go.Vi.A
namespace Go.Vi.B
open Go.Proofs Go.Vi.A
set_option linter.unusedVariables false
set_option linter.unusedSimpArgs false
variable {β : Type} {N : Nat} (hN : 1000 ≤ N)
theorem net_get {n : Nat} {z : QS} {j : Nat} {p : Int} (h0 : 0 ≤ p) (h1 : p < n) : (tab n fun p => netF (z.take j) p)[p.toNat]? = some (netF (z.take j) p) := by
  rw [tab_get (by omega)]
  have e : ((p.toNat : Nat) : Int) = p := by omega
  rw [e]
theorem net_get2 {n : Nat} {z : QS} {j : Nat} {p q x : Int} (h0 : 0 ≤ p) (h1 : p < n) (hq : 0 ≤ q) (hne : q ≠ p) : ((tab n fun p => netF (z.take j) p).set q.toNat x)[p.toNat]? = some (netF (z.take j) p) := by
  rw [List.getElem?_set_ne (by omega), net_get h0 h1]
theorem net_rng {pl : List Pl} {ro : List Ro} {xq : List Int} (hq : ferr flE 0 xq = 0) (hn : ro.length ≤ 128) (j : Nat) (p : Int) : -268435456 ≤ netF ((ro.zip xq).take j) p ∧ netF ((ro.zip xq).take j) p ≤ 268435456 := by
  have := netF_bd (M := 1048576) (by omega) ((ro.zip xq).take j) 128 p (fun x hx => by
    have hx := (List.of_mem_zip (List.mem_of_mem_take hx)).2
    obtain ⟨i, hi⟩ := List.mem_iff_getElem?.1 hx
    have := (ferr_zero _ _).1 hq i _ hi
    unfold flE at this
    repeat' split at this
    all_goals first | (exact absurd this (by decide)) | omega) (by rw [List.length_take, List.length_zip]; omega)
  omega
theorem fl_bd {xq : List Int} (hq : ferr flE 0 xq = 0) {j : Nat} {q : Int} (h : xq[j]? = some q) : -1048576 ≤ q ∧ q ≤ 1048576 := by
  have := (ferr_zero _ _).1 hq j _ h
  unfold flE at this
  repeat' split at this
  all_goals first | (exact absurd this (by decide)) | omega
theorem pr_bd {xp : List Int} (hp : ferr prE 0 xp = 0) {j : Nat} {q : Int} (h : xp[j]? = some q) : -70368744177664 ≤ q ∧ q ≤ 70368744177664 := by
  have := (ferr_zero _ _).1 hp j _ h
  unfold prE at this
  repeat' split at this
  all_goals first | (exact absurd this (by decide)) | omega
theorem net_zero (n : Nat) (z : QS) : List.replicate n (0 : Int) = tab n fun p => netF (z.take 0) p := by
  rw [tab_rep]; rfl
include hN in
theorem branch_Fits (pl : List Pl) (ro : List Ro) (fa : List Fa) (dr : List Do) (sf sd xp xq : List Int) (k : Int → Option β) : F21.C N pl ro fa dr sf sd xp xq k = k (fitsE pl ro fa dr sf sd xp xq) := by
  rw [F21.C_eq]; unfold F21.K fitsE
  simp only [res, branch_Check hN]
  refine thnK fun c0 => ?_
  have ha := AirOk.of c0
  rw [branch_Fitting hN _ _ _ _ _ _ c0, nz]
  by_cases c1 : fitE fa dr sf sd = 0
  · have hs := SetOk.of c1
    have n1 := ha.npl; have n2 := ha.nro
    simp only [c1, decide_true, res, if_true, stE]
    refine ifK' fun l1 => ifK' fun l2 => ?_
    refine (lerr (xs := xp) prE (L := fun n i => F21.l9 N n pl ro fa dr sf sd xp xq 0 xp (xp.length : Int) (i : Int) k _) (k0 := k) (fun n => by
        simp only [F21.l9, res]; rw [if_neg (by omega)]) (fun i x hx n => by
        have hi := idx hx
        simp only [F21.l9, res, Int.toNat_natCast, hx, ge_some, w_succ (show i < 4000000000 by omega)]
        rw [if_pos (by omega), if_pos (by omega)]
        unfold prE
        exact ifE (by decide) fun _ => ifE (by decide) fun _ => out0) N 0 (by omega) (by omega)).trans (thnK fun hp => ?_)
    rw [List.drop_zero] at hp
    refine (lerr (xs := xq) flE (L := fun n i => F21.l15 N n pl ro fa dr sf sd xp xq 0 xq (xq.length : Int) (i : Int) k _) (k0 := k) (fun n => by
        simp only [F21.l15, res]; rw [if_neg (by omega)]) (fun i x hx n => by
        have hi := idx hx
        simp only [F21.l15, res, Int.toNat_natCast, hx, ge_some, w_succ (show i < 4000000000 by omega)]
        rw [if_pos (by omega), if_pos (by omega)]
        unfold flE
        exact ifE (by decide) fun _ => ifE (by decide) fun _ => out0) N 0 (by omega) (by omega)).trans (thnK fun hq => ?_)
    rw [List.drop_zero] at hq
    rw [if_pos (by omega), if_pos (by omega), Int.toNat_natCast, net_zero pl.length (ro.zip xq)]
    refine (lerr (xs := ro) (cloE xq) (L := fun n i => F21.l22 N n pl ro fa dr sf sd xp xq 0 (tab pl.length fun p => netF ((ro.zip xq).take i) p) ro (ro.length : Int) (i : Int) k _) (k0 := k) (fun n => by
        simp only [F21.l22, res]; rw [if_neg (by omega)]) (fun i r hr n => by
        have hi := idx hr
        obtain ⟨q, hqi⟩ := getl (show i < xq.length by omega)
        have hR := ha.road r (List.mem_of_getElem? hr)
        have hz := zip_get hr hqi
        have b1 := net_rng (pl := pl) hq n2 i r.1
        have b2 := net_rng (pl := pl) hq n2 i r.2.1
        have bq := fl_bd hq hqi
        have hset := net_set (n := pl.length) hz hR.frm.1 hR.to.1 hR.ne
        have g1 := net_get (z := ro.zip xq) (j := i) hR.frm.1 hR.frm.2
        have g2 := fun x => net_get2 (z := ro.zip xq) (j := i) (x := x) hR.to.1 hR.to.2 hR.frm.1 hR.ne
        simp only [F21.l22, res, Int.toNat_natCast, hr, ge_some, w_succ (show i < 4000000000 by omega), hqi, g1, g2, hR.frm.1, hR.to.1, if_true, Int.natCast_nonneg, w_id (x := netF ((ro.zip xq).take i) r.1 + q) (by omega) (by omega), w_id (x := netF ((ro.zip xq).take i) r.2.1 - q) (by omega) (by omega), hset]
        rw [if_pos (by omega)]
        unfold cloE
        rw [getD_eq hqi]
        cases hc : r.2.2.2.2.2.1 with
        | true =>
          simp only [res, if_true]
          by_cases c : q = 0
          · simp only [c, if_true]
          · simp only [c, if_false, Int.reduceEq]
        | false => simp only [res, Bool.false_eq_true, if_false, if_true]) N 0 (by omega) (by omega)).trans (thnK fun hc => ?_)
    rw [List.take_of_length_le (by rw [List.length_zip]; omega)]
    refine (lerr (xs := pl) (sumE (ro.zip xq) xp) (L := fun n i => F21.l30 N n pl ro fa dr sf sd xp xq 0 (tab pl.length fun p => netF (ro.zip xq) p) pl (pl.length : Int) (i : Int) k _) (k0 := k) (fun n => by
        simp only [F21.l30, res]; rw [if_neg (by omega)]) (fun i x hx n => by
        have hi := idx hx
        obtain ⟨p, hpi⟩ := getl (show i < xp.length by omega)
        simp only [F21.l30, res, Int.toNat_natCast, hx, hpi, tab_get hi, ge_some, w_succ (show i < 4000000000 by omega), Int.natCast_nonneg, if_true]
        rw [if_pos (by omega)]
        unfold sumE
        rw [getD_eq hpi]
        cases hs : x.2 with
        | true =>
          simp only [res, if_true, Bool.not_true]
          by_cases c : p = 0
          · simp only [c, if_true]
          · simp only [c, if_false, Int.reduceEq]
        | false =>
          simp only [res, if_true, Bool.false_eq_true, if_false, Bool.not_false]
          by_cases c : netF (ro.zip xq) i = 0
          · simp only [c, if_true]
          · simp only [c, if_false, Int.reduceEq]) N 0 (by omega) (by omega)).trans (thnK fun hsum => ?_)
    rw [make_eq hN ha hs, ← pipes_err (dr.zip sd) (fa.zip sf) xp xq ro 0 0]
    have hlen := pipesF_len (dr.zip sd) (fa.zip sf) ro 0
    refine (lerr (xs := pipesF (dr.zip sd) (fa.zip sf) 0 ro) (fun _ (p : Pi) => outE (xp.getD p.1.1.toNat 0 - xp.getD p.1.2.1.toNat 0) (pdrop p (xq.getD p.2.1.toNat 0)))
      (L := fun n i => F21.l36 N n xp xq 0 (pipesF (dr.zip sd) (fa.zip sf) 0 ro) (tab pl.length fun p => some (atF p 0 (pipesF (dr.zip sd) (fa.zip sf) 0 ro))) ((pipesF (dr.zip sd) (fa.zip sf) 0 ro).length : Int) (i : Int) k _) (k0 := k) (fun n => by
        simp only [F21.l36, res]; rw [if_neg (by omega)]) (fun i p hp' n => by
        have hi := idx hp'
        obtain ⟨j, r, hr, rfl, hc⟩ := pipes_mem (List.mem_of_getElem? hp')
        rw [Nat.zero_add] at *
        have hj := idx hr
        have hR := ha.road r (List.mem_of_getElem? hr)
        have ok := pOf_ok ha sf sd j (List.mem_of_getElem? hr)
        obtain ⟨q, hqi⟩ := getl (show j < xq.length by omega)
        obtain ⟨a, ha'⟩ := geti hR.frm.1 (show r.1 < (xp.length : Int) by have := hR.frm.2; omega)
        obtain ⟨b, hb'⟩ := geti hR.to.1 (show r.2.1 < (xp.length : Int) by have := hR.to.2; omega)
        have ba := pr_bd hp ha'; have bb := pr_bd hp hb'; have bq := fl_bd hq hqi
        have e := pipe_Drop (β := β) (N := N) hN ok (q := q) (by omega) (by omega)
        simp only [pOf] at e hp' ⊢
        simp only [F21.l36, res, Int.toNat_natCast, hp', ge_some, w_succ (show i < 4000000000 by omega), ha', hb', hqi, hR.frm.1, hR.to.1, Int.natCast_nonneg, if_true, e, w_id (x := a - b) (by omega) (by omega), getD_eq ha', getD_eq hb', getD_eq hqi]
        rw [if_pos (by omega)]
        unfold outE
        exact ifE (by decide) fun _ => ifE (by decide) fun _ => out0) N 0 (by omega) (by omega)).trans endK
  · simp only [c1, decide_false, res, Bool.not_false, if_false]
end Go.Vi.B
/- (*minecontrol/minecontroldraw.Codes).Setting -/
namespace Go.Vi.B
open Go.Proofs
set_option linter.unusedVariables false
set_option maxRecDepth 100000
abbrev F11.i : Sh := [(0, .one (.addr 0 0)), (1, .slot false [.lst .pin 5 (.int .u8), .i]), (2, .agg [.lst .frz 62 kd1, .lst .frz 71 kd8, .lst .frz 100 kd11, .lst .frz 55 kd13])]
abbrev F11.o0 : Sh := [(0, .agg [.view 0 0, .view 0 1]), (1, .slot true [.lst .own 3 .i, .lst .own 3 .i]), (2, .one (.addr 1 0)), (3, .slot false [.lst .pin 5 (.int .u8), .i])]
noncomputable def F11.l3 {β : Type} (N : Nat) : Nat → (List Int) → Int → (List Pl) → (List Ro) → (List Fa) → (List Do) → (List Int) → (List Int) → (List Int) → (List Int) → Int → (List Int → Int → List Pl → List Ro → List Fa → List Do → List Int → List Int → List Int → List Int → Int → Bool → Option β) → Option β
 | 0, _, _, _, _, _, _, _, _, _, _, _, _ => none
 | n + 1, v0, v1, v2, v3, v4, v5, v6, v7, v8, v9, v10, k0 =>
  bl (v10 < (v4.length : Int)) (k0 v0 v1 v2 v3 v4 v5 v6 v7 v8 v9 v10 (decide (v10 < (v4.length : Int)))) <|
  F23.C N v0 v1 4 fun r1 r2 r3 =>
  ck (v8.length + 1 ≤ 1000000000) <|
  F11.l3 N n r2 r3 v2 v3 v4 v5 v6 v7 (v8 ++ [(w (r1 - 1))]) v9 (w (v10 + 1)) k0
noncomputable def F11.l7 {β : Type} (N : Nat) : Nat → (List Int) → Int → (List Pl) → (List Ro) → (List Fa) → (List Do) → (List Int) → (List Int) → (List Int) → (List Int) → Int → (List Int → Int → List Pl → List Ro → List Fa → List Do → List Int → List Int → List Int → List Int → Int → Bool → Option β) → Option β
 | 0, _, _, _, _, _, _, _, _, _, _, _, _ => none
 | n + 1, v0, v1, v2, v3, v4, v5, v6, v7, v8, v9, v10, k0 =>
  bl (v10 < (v5.length : Int)) (k0 v0 v1 v2 v3 v4 v5 v6 v7 v8 v9 v10 (decide (v10 < (v5.length : Int)))) <|
  ck (0 ≤ v10) <|
  ge (v5[v10.toNat]?) fun x1 =>
  F23.C N v0 v1 (w ((x1.2.2.length : Int) + 1)) fun r2 r3 r4 =>
  ck (v9.length + 1 ≤ 1000000000) <|
  F11.l7 N n r3 r4 v2 v3 v4 v5 v6 v7 v8 (v9 ++ [(w (r2 - 1))]) (w (v10 + 1)) k0
noncomputable def F11.K {β : Type} (N : Nat) (a0 : List Int) (a1 : Int) (a2 : List Pl) (a3 : List Ro) (a4 : List Fa) (a5 : List Do) (k0 : List Int → List Int → List Int → Int → Option β) : Option β :=
 F11.l3 N N a0 a1 a2 a3 a4 a5 [] [] [] [] 0 fun z4 z5 z6 z7 z8 z9 z10 z11 z12 z13 _ _ =>
 F11.l7 N N z4 z5 z6 z7 z8 z9 z10 z11 z12 z13 0 fun z16 z17 _ _ _ _ _ _ z24 z25 _ _ =>
 k0 z24 z25 z16 z17
noncomputable def F11.fx : Fx := ⟨Try.prog, [4], [], [(0,[0,3,4]),(1,[0,3,4,5]),(2,[0,3,4,5,6]),(3,[0,3,4,5,6,12]),(4,[0,3,4,5,6]),(5,[0,3,4,5,6]),(6,[0,3,4,5,7]),(7,[0,3,4,5,7,27]),(8,[0,3,4,5,7]),(9,[0,3,4,5,7]),(10,[0,4])], 47, [0]⟩
noncomputable def F11.cs (N : Nat) : List (Ctr Try.prog) := [F23.X N]
abbrev F11.s3 : Sh := [(0, .one (.addr 0 0)), (1, .slot false [.lst .pin 5 (.int .u8), .i]), (6, .one (.addr 3 0)), (7, .slot false [.lst .frz 62 kd1, .lst .frz 71 kd8, .lst .frz 100 kd11, .lst .frz 55 kd13]), (8, .one (.addr 4 0)), (9, .slot false [.lst .own 3 .i, .lst .own 3 .i]), (10, .one (.addr 5 0)), (11, .slot false [.lst .own 3 .i, .lst .own 3 .i]), (12, .one .i)]
abbrev F11.e3_0 : Sh := [(0, .one (.addr 0 0)), (1, .slot false [.lst .pin 5 (.int .u8), .i]), (6, .one (.addr 3 0)), (7, .slot false [.lst .frz 62 kd1, .lst .frz 71 kd8, .lst .frz 100 kd11, .lst .frz 55 kd13]), (8, .one (.addr 4 0)), (9, .slot false [.lst .own 3 .i, .lst .own 3 .i]), (10, .one (.addr 5 0)), (11, .slot false [.lst .own 3 .i, .lst .own 3 .i]), (12, .one .i), (24, .one .bool)]
noncomputable def F11.X3 (N : Nat) : LpC Try.prog F11.fx := mkL (F11.cs N) [] ((loopsOf (bodyOf Try.f11)).getD 0 .skip) 3 [0,3,4,5,6] (by kernel_rfl) (by kernel_rfl) (by kernel_rfl) F11.s3 (fun n x k => F11.l3 N n x.1 x.2.1 x.2.2.1 x.2.2.2.1 x.2.2.2.2.1 x.2.2.2.2.2.1 x.2.2.2.2.2.2.1 x.2.2.2.2.2.2.2.1 x.2.2.2.2.2.2.2.2.1 x.2.2.2.2.2.2.2.2.2.1 x.2.2.2.2.2.2.2.2.2.2.1 (fun r0 r1 r2 r3 r4 r5 r6 r7 r8 r9 r10 r11 => k (.exit 0) (Sh.mk F11.e3_0 (r0, r1, r2, r3, r4, r5, r6, r7, r8, r9, r10, r11, ())))) (fun _ _ => rfl) (fun _ _ _ => by kernel_rfl) N
abbrev F11.s7 : Sh := [(0, .one (.addr 0 0)), (1, .slot false [.lst .pin 5 (.int .u8), .i]), (6, .one (.addr 3 0)), (7, .slot false [.lst .frz 62 kd1, .lst .frz 71 kd8, .lst .frz 100 kd11, .lst .frz 55 kd13]), (8, .one (.addr 4 0)), (9, .slot false [.lst .own 3 .i, .lst .own 3 .i]), (10, .one (.addr 5 0)), (11, .slot false [.lst .own 3 .i, .lst .own 3 .i]), (14, .one .i)]
abbrev F11.e7_0 : Sh := [(0, .one (.addr 0 0)), (1, .slot false [.lst .pin 5 (.int .u8), .i]), (6, .one (.addr 3 0)), (7, .slot false [.lst .frz 62 kd1, .lst .frz 71 kd8, .lst .frz 100 kd11, .lst .frz 55 kd13]), (8, .one (.addr 4 0)), (9, .slot false [.lst .own 3 .i, .lst .own 3 .i]), (10, .one (.addr 5 0)), (11, .slot false [.lst .own 3 .i, .lst .own 3 .i]), (14, .one .i), (54, .one .bool)]
noncomputable def F11.X7 (N : Nat) : LpC Try.prog F11.fx := mkL (F11.cs N) [] ((loopsOf (bodyOf Try.f11)).getD 1 .skip) 7 [0,3,4,5,7] (by kernel_rfl) (by kernel_rfl) (by kernel_rfl) F11.s7 (fun n x k => F11.l7 N n x.1 x.2.1 x.2.2.1 x.2.2.2.1 x.2.2.2.2.1 x.2.2.2.2.2.1 x.2.2.2.2.2.2.1 x.2.2.2.2.2.2.2.1 x.2.2.2.2.2.2.2.2.1 x.2.2.2.2.2.2.2.2.2.1 x.2.2.2.2.2.2.2.2.2.2.1 (fun r0 r1 r2 r3 r4 r5 r6 r7 r8 r9 r10 r11 => k (.exit 2) (Sh.mk F11.e7_0 (r0, r1, r2, r3, r4, r5, r6, r7, r8, r9, r10, r11, ())))) (fun _ _ => rfl) (fun _ _ _ => by kernel_rfl) N
noncomputable def F11.C {β : Type} (N : Nat) := (Sealed fun β => @F11.K β).1 β N
theorem F11.C_eq {β : Type} (N : Nat) : @F11.C β N = @F11.K β N := congrFun (congrFun (Sealed fun β => @F11.K β).2 β) N
noncomputable def F11.X (N : Nat) : Ctr Try.prog := mkF 11 Try.f11 F11.fx (F11.cs N) [F11.X3 N, F11.X7 N] F11.i (fun x k => F11.C N x.1 x.2.1 x.2.2.1 x.2.2.2.1 x.2.2.2.2.1 x.2.2.2.2.2.1 (fun r0 r1 r2 r3 => k (Sh.mk F11.o0 (r0, r1, r2, r3, ())))) (by intros; rw [F11.C_eq]; kernel_rfl) (by kernel_rfl) (by kernel_rfl) (by kernel_rfl) (by kernel_rfl) rfl (by kernel_rfl) rfl (by kernel_rfl) (by kernel_rfl) (by kernel_rfl) (.dead _ 11) rfl
end Go.Vi.B
/- (*minecontrol/minecontroldraw.Codes).equipped -/
namespace Go.Vi.B
open Go.Proofs
set_option linter.unusedVariables false
set_option maxRecDepth 100000
abbrev F26.i : Sh := [(0, .one (.addr 0 0)), (1, .slot false [.lst .pin 5 (.int .u8), .i]), (2, .one (.addr 1 0)), (3, .slot false [.lst .own 62 kd1, .lst .own 71 kd8, .lst .own 100 kd11, .lst .own 55 kd13])]
abbrev F26.o0 : Sh := [(0, .agg [.view 0 0, .view 0 1]), (1, .slot true [.lst .own 3 .i, .lst .own 3 .i]), (2, .one (.addr 1 0)), (3, .slot false [.lst .pin 5 (.int .u8), .i]), (4, .one (.addr 2 0)), (5, .slot false [.lst .own 62 kd1, .lst .own 71 kd8, .lst .own 100 kd11, .lst .own 55 kd13])]
noncomputable def F26.l4 {β : Type} (N : Nat) : Nat → (List Int) → Int → (List Pl) → (List Ro) → (List Fa) → (List Do) → (List Int) → (List Int) → (List Int) → (List Int) → Int → Int → (List Int → Int → List Pl → List Ro → List Fa → List Do → List Int → List Int → List Int → List Int → Int → Int → Bool → Option β) → Option β
 | 0, _, _, _, _, _, _, _, _, _, _, _, _, _ => none
 | n + 1, v0, v1, v2, v3, v4, v5, v6, v7, v8, v9, v10, v11, k0 =>
  bl (v11 > 0) (k0 v0 v1 v2 v3 v4 v5 v6 v7 v8 v9 v10 v11 false) <|
  bl (v10 > 0) (k0 v0 v1 v2 v3 v4 v5 v6 v7 v8 v9 v10 v11 (decide (v10 > 0))) <|
  F23.C N v0 v1 v10 fun r1 r2 r3 =>
  F22.C N r2 r3 3 fun r4 r5 r6 =>
  F22.C N r5 r6 3 fun r7 r8 r9 =>
  F50.C N r8 r9 fun r10 r11 r12 =>
  ck (v4.length + 1 ≤ 1000000000) <|
  F23.C N r11 r12 3 fun r13 r14 r15 =>
  ck (v8.length + 1 ≤ 1000000000) <|
  F26.l4 N n r14 r15 v2 v3 (v4 ++ [(r1, (r4, (r7, r10)))]) v5 v6 v7 (v8 ++ [r13]) v9 v10 (w (v11 - 1)) k0
noncomputable def F26.l9 {β : Type} (N : Nat) : Nat → (List Int) → Int → (List Pl) → (List Ro) → (List Fa) → (List Do) → (List Int) → (List Int) → (List Int) → (List Int) → Int → Int → (List Int → Int → List Pl → List Ro → List Fa → List Do → List Int → List Int → List Int → List Int → Int → Int → Bool → Option β) → Option β
 | 0, _, _, _, _, _, _, _, _, _, _, _, _, _ => none
 | n + 1, v0, v1, v2, v3, v4, v5, v6, v7, v8, v9, v10, v11, k0 =>
  bl (v11 > 0) (k0 v0 v1 v2 v3 v4 v5 v6 v7 v8 v9 v10 v11 false) <|
  bl (v10 > 0) (k0 v0 v1 v2 v3 v4 v5 v6 v7 v8 v9 v10 v11 (decide (v10 > 0))) <|
  F23.C N v0 v1 v10 fun r1 r2 r3 =>
  F51.C N r2 r3 r1 fun r4 r5 r6 r7 r8 =>
  ck (v5.length + 1 ≤ 1000000000) <|
  F23.C N r7 r8 (r6.length : Int) fun r9 r10 r11 =>
  ck (v9.length + 1 ≤ 1000000000) <|
  F26.l9 N n r10 r11 v2 v3 v4 (v5 ++ [(r4, (r5, r6))]) v6 v7 v8 (v9 ++ [r9]) v10 (w (v11 - 1)) k0
noncomputable def F26.K {β : Type} (N : Nat) (a0 : List Int) (a1 : Int) (a2 : List Pl) (a3 : List Ro) (a4 : List Fa) (a5 : List Do) (k0 : List Int → List Int → List Int → Int → List Pl → List Ro → List Fa → List Do → Option β) : Option β :=
 F23.C N a0 a1 3 fun r1 r2 r3 =>
 F26.l4 N N r2 r3 a2 a3 a4 a5 [] [] [] [] (a3.length : Int) r1 fun z16 z17 z18 z19 z20 z21 z22 z23 z24 z25 z26 _ _ =>
 F23.C N z16 z17 3 fun r29 r30 r31 =>
 F26.l9 N N r30 r31 z18 z19 z20 z21 z22 z23 z24 z25 z26 r29 fun z32 z33 z34 z35 z36 z37 _ _ z40 z41 _ _ _ =>
 k0 z40 z41 z32 z33 z34 z35 z36 z37
noncomputable def F26.fx : Fx := ⟨Try.prog, [4], [], [(0,[0,1,4]),(1,[0,1,4,5]),(2,[0,1,4,5,6]),(3,[0,1,4,5,6,7]),(4,[0,1,4,5,6,7,23]),(5,[0,1,4,5,6,7]),(6,[0,1,4,5,6,7]),(7,[0,1,4,5,6,7]),(8,[0,1,4,5,6,8]),(9,[0,1,4,5,6,8,59]),(10,[0,1,4,5,6,8]),(11,[0,1,4,5,6,8,9]),(12,[0,1,4,5,6,8,9]),(13,[0,1,4,5,6,8]),(14,[0,1,4])], 88, [0, 1]⟩
noncomputable def F26.cs (N : Nat) : List (Ctr Try.prog) := [F23.X N, F22.X N, F50.X N, F51.X N]
abbrev F26.s4 : Sh := [(0, .one (.addr 0 0)), (1, .slot false [.lst .pin 5 (.int .u8), .i]), (2, .one (.addr 1 0)), (3, .slot false [.lst .own 62 kd1, .lst .own 71 kd8, .lst .own 100 kd11, .lst .own 55 kd13]), (8, .one (.addr 4 0)), (9, .slot false [.lst .own 3 .i, .lst .own 3 .i]), (10, .one (.addr 5 0)), (11, .slot false [.lst .own 3 .i, .lst .own 3 .i]), (12, .one .i), (14, .one .i)]
abbrev F26.e4_0 : Sh := [(0, .one (.addr 0 0)), (1, .slot false [.lst .pin 5 (.int .u8), .i]), (2, .one (.addr 1 0)), (3, .slot false [.lst .own 62 kd1, .lst .own 71 kd8, .lst .own 100 kd11, .lst .own 55 kd13]), (8, .one (.addr 4 0)), (9, .slot false [.lst .own 3 .i, .lst .own 3 .i]), (10, .one (.addr 5 0)), (11, .slot false [.lst .own 3 .i, .lst .own 3 .i]), (12, .one .i), (14, .one .i), (46, .one .bool)]
noncomputable def F26.X4 (N : Nat) : LpC Try.prog F26.fx := mkL (F26.cs N) [] ((loopsOf (bodyOf Try.f26)).getD 0 .skip) 4 [0,1,4,5,6,7] (by kernel_rfl) (by kernel_rfl) (by kernel_rfl) F26.s4 (fun n x k => F26.l4 N n x.1 x.2.1 x.2.2.1 x.2.2.2.1 x.2.2.2.2.1 x.2.2.2.2.2.1 x.2.2.2.2.2.2.1 x.2.2.2.2.2.2.2.1 x.2.2.2.2.2.2.2.2.1 x.2.2.2.2.2.2.2.2.2.1 x.2.2.2.2.2.2.2.2.2.2.1 x.2.2.2.2.2.2.2.2.2.2.2.1 (fun r0 r1 r2 r3 r4 r5 r6 r7 r8 r9 r10 r11 r12 => k (.exit 0) (Sh.mk F26.e4_0 (r0, r1, r2, r3, r4, r5, r6, r7, r8, r9, r10, r11, r12, ())))) (fun _ _ => rfl) (fun _ _ _ => by kernel_rfl) N
abbrev F26.s9 : Sh := [(0, .one (.addr 0 0)), (1, .slot false [.lst .pin 5 (.int .u8), .i]), (2, .one (.addr 1 0)), (3, .slot false [.lst .own 62 kd1, .lst .own 71 kd8, .lst .own 100 kd11, .lst .own 55 kd13]), (8, .one (.addr 4 0)), (9, .slot false [.lst .own 3 .i, .lst .own 3 .i]), (10, .one (.addr 5 0)), (11, .slot false [.lst .own 3 .i, .lst .own 3 .i]), (12, .one .i), (16, .one .i)]
abbrev F26.e9_0 : Sh := [(0, .one (.addr 0 0)), (1, .slot false [.lst .pin 5 (.int .u8), .i]), (2, .one (.addr 1 0)), (3, .slot false [.lst .own 62 kd1, .lst .own 71 kd8, .lst .own 100 kd11, .lst .own 55 kd13]), (8, .one (.addr 4 0)), (9, .slot false [.lst .own 3 .i, .lst .own 3 .i]), (10, .one (.addr 5 0)), (11, .slot false [.lst .own 3 .i, .lst .own 3 .i]), (12, .one .i), (16, .one .i), (118, .one .bool)]
noncomputable def F26.X9 (N : Nat) : LpC Try.prog F26.fx := mkL (F26.cs N) [] ((loopsOf (bodyOf Try.f26)).getD 1 .skip) 9 [0,1,4,5,6,8] (by kernel_rfl) (by kernel_rfl) (by kernel_rfl) F26.s9 (fun n x k => F26.l9 N n x.1 x.2.1 x.2.2.1 x.2.2.2.1 x.2.2.2.2.1 x.2.2.2.2.2.1 x.2.2.2.2.2.2.1 x.2.2.2.2.2.2.2.1 x.2.2.2.2.2.2.2.2.1 x.2.2.2.2.2.2.2.2.2.1 x.2.2.2.2.2.2.2.2.2.2.1 x.2.2.2.2.2.2.2.2.2.2.2.1 (fun r0 r1 r2 r3 r4 r5 r6 r7 r8 r9 r10 r11 r12 => k (.exit 2) (Sh.mk F26.e9_0 (r0, r1, r2, r3, r4, r5, r6, r7, r8, r9, r10, r11, r12, ())))) (fun _ _ => rfl) (fun _ _ _ => by kernel_rfl) N
noncomputable def F26.C {β : Type} (N : Nat) := (Sealed fun β => @F26.K β).1 β N
theorem F26.C_eq {β : Type} (N : Nat) : @F26.C β N = @F26.K β N := congrFun (congrFun (Sealed fun β => @F26.K β).2 β) N
noncomputable def F26.X (N : Nat) : Ctr Try.prog := mkF 26 Try.f26 F26.fx (F26.cs N) [F26.X4 N, F26.X9 N] F26.i (fun x k => F26.C N x.1 x.2.1 x.2.2.1 x.2.2.2.1 x.2.2.2.2.1 x.2.2.2.2.2.1 (fun r0 r1 r2 r3 r4 r5 r6 r7 => k (Sh.mk F26.o0 (r0, r1, r2, r3, r4, r5, r6, r7, ())))) (by intros; rw [F26.C_eq]; kernel_rfl) (by kernel_rfl) (by kernel_rfl) (by kernel_rfl) (by kernel_rfl) rfl (by kernel_rfl) rfl (by kernel_rfl) (by kernel_rfl) (by kernel_rfl) (.dead _ 26) rfl
end Go.Vi.B
/- (*minecontrol/minecontroldraw.Codes).doubts -/
namespace Go.Vi.B
open Go.Proofs
set_option linter.unusedVariables false
set_option maxRecDepth 100000
abbrev F28.i : Sh := [(0, .one (.addr 0 0)), (1, .slot false [.lst .pin 5 (.int .u8), .i]), (2, .agg [.lst .frz 62 kd1, .lst .frz 71 kd8, .lst .frz 100 kd11, .lst .frz 55 kd13]), (4, .agg [.lst .frz 3 .i, .lst .frz 3 .i])]
abbrev F28.o0 : Sh := [(0, .agg [.view 0 0, .view 0 1]), (1, .slot true [.lst .own 3 .i, .lst .own 3 .i]), (2, .one (.addr 1 0)), (3, .slot false [.lst .pin 5 (.int .u8), .i])]
noncomputable def F28.l3 {β : Type} (N : Nat) : Nat → (List Int) → Int → (List Int) → (List Int) → (List Int) → (List Int) → (List Int) → (List Int) → Int → (List Int → Int → List Int → List Int → List Int → List Int → List Int → List Int → Int → Bool → Option β) → Option β
 | 0, _, _, _, _, _, _, _, _, _, _ => none
 | n + 1, v0, v1, v2, v3, v4, v5, v6, v7, v8, k0 =>
  bl (v8 < (v2.length : Int)) (k0 v0 v1 v2 v3 v4 v5 v6 v7 v8 (decide (v8 < (v2.length : Int)))) <|
  ck (0 ≤ v8) <|
  ge (v2[v8.toNat]?) fun x1 =>
  F22.C N v0 v1 5 fun r2 r3 r4 =>
  bl r2 (
   ck (v6.length + 1 ≤ 1000000000) <|
   F28.l3 N n r3 r4 v2 v3 v4 v5 (v6 ++ [x1]) v7 (w (v8 + 1)) k0) <|
  ck (v6.length + 1 ≤ 1000000000) <|
  F28.l3 N n r3 r4 v2 v3 v4 v5 (v6 ++ [(-1)]) v7 (w (v8 + 1)) k0
noncomputable def F28.l10 {β : Type} (N : Nat) : Nat → (List Int) → Int → (List Int) → (List Int) → (List Int) → (List Int) → (List Int) → (List Int) → Int → (List Int → Int → List Int → List Int → List Int → List Int → List Int → List Int → Int → Bool → Option β) → Option β
 | 0, _, _, _, _, _, _, _, _, _, _ => none
 | n + 1, v0, v1, v2, v3, v4, v5, v6, v7, v8, k0 =>
  bl (v8 < (v3.length : Int)) (k0 v0 v1 v2 v3 v4 v5 v6 v7 v8 (decide (v8 < (v3.length : Int)))) <|
  ck (0 ≤ v8) <|
  ge (v3[v8.toNat]?) fun x1 =>
  F22.C N v0 v1 5 fun r2 r3 r4 =>
  bl r2 (
   ck (v7.length + 1 ≤ 1000000000) <|
   F28.l10 N n r3 r4 v2 v3 v4 v5 v6 (v7 ++ [x1]) (w (v8 + 1)) k0) <|
  ck (v7.length + 1 ≤ 1000000000) <|
  F28.l10 N n r3 r4 v2 v3 v4 v5 v6 (v7 ++ [(-1)]) (w (v8 + 1)) k0
noncomputable def F28.K {β : Type} (N : Nat) (a0 : List Int) (a1 : Int) (a2 : List Pl) (a3 : List Ro) (a4 : List Fa) (a5 : List Do) (a6 a7 : List Int) (k0 : List Int → List Int → List Int → Int → Option β) : Option β :=
 F28.l3 N N a0 a1 a6 a7 [] [] [] [] 0 fun z5 z6 z7 z8 z9 z10 z11 z12 _ _ =>
 F28.l10 N N z5 z6 z7 z8 z9 z10 z11 z12 0 fun z15 z16 _ _ _ _ z21 z22 _ _ =>
 k0 z21 z22 z15 z16
noncomputable def F28.fx : Fx := ⟨Try.prog, [6], [], [(0,[0,5,6]),(1,[0,5,6,7]),(2,[0,5,6,7,8]),(3,[0,5,6,7,8,16]),(4,[0,5,6,7,8]),(5,[0,5,6,7,8,9]),(6,[0,5,6,7,8,9,25]),(7,[0,5,6,7,8,9]),(8,[0,5,6,7,8]),(9,[0,5,6,7,10]),(10,[0,5,6,7,10,36]),(11,[0,5,6,7,10]),(12,[0,5,6,7,10,11]),(13,[0,5,6,7,10,11,45]),(14,[0,5,6,7,10,11]),(15,[0,5,6,7,10]),(16,[0,6])], 53, [0]⟩
noncomputable def F28.cs (N : Nat) : List (Ctr Try.prog) := [F22.X N]
abbrev F28.s3 : Sh := [(0, .one (.addr 0 0)), (1, .slot false [.lst .pin 5 (.int .u8), .i]), (10, .one (.addr 5 0)), (11, .slot false [.lst .frz 3 .i, .lst .frz 3 .i]), (12, .one (.addr 6 0)), (13, .slot false [.lst .own 3 .i, .lst .own 3 .i]), (14, .one (.addr 7 0)), (15, .slot false [.lst .own 3 .i, .lst .own 3 .i]), (16, .one .i)]
abbrev F28.e3_0 : Sh := [(0, .one (.addr 0 0)), (1, .slot false [.lst .pin 5 (.int .u8), .i]), (10, .one (.addr 5 0)), (11, .slot false [.lst .frz 3 .i, .lst .frz 3 .i]), (12, .one (.addr 6 0)), (13, .slot false [.lst .own 3 .i, .lst .own 3 .i]), (14, .one (.addr 7 0)), (15, .slot false [.lst .own 3 .i, .lst .own 3 .i]), (16, .one .i), (32, .one .bool)]
noncomputable def F28.X3 (N : Nat) : LpC Try.prog F28.fx := mkL (F28.cs N) [] ((loopsOf (bodyOf Try.f28)).getD 0 .skip) 3 [0,5,6,7,8] (by kernel_rfl) (by kernel_rfl) (by kernel_rfl) F28.s3 (fun n x k => F28.l3 N n x.1 x.2.1 x.2.2.1 x.2.2.2.1 x.2.2.2.2.1 x.2.2.2.2.2.1 x.2.2.2.2.2.2.1 x.2.2.2.2.2.2.2.1 x.2.2.2.2.2.2.2.2.1 (fun r0 r1 r2 r3 r4 r5 r6 r7 r8 r9 => k (.exit 0) (Sh.mk F28.e3_0 (r0, r1, r2, r3, r4, r5, r6, r7, r8, r9, ())))) (fun _ _ => rfl) (fun _ _ _ => by kernel_rfl) N
abbrev F28.s10 : Sh := [(0, .one (.addr 0 0)), (1, .slot false [.lst .pin 5 (.int .u8), .i]), (10, .one (.addr 5 0)), (11, .slot false [.lst .frz 3 .i, .lst .frz 3 .i]), (12, .one (.addr 6 0)), (13, .slot false [.lst .own 3 .i, .lst .own 3 .i]), (14, .one (.addr 7 0)), (15, .slot false [.lst .own 3 .i, .lst .own 3 .i]), (20, .one .i)]
abbrev F28.e10_0 : Sh := [(0, .one (.addr 0 0)), (1, .slot false [.lst .pin 5 (.int .u8), .i]), (10, .one (.addr 5 0)), (11, .slot false [.lst .frz 3 .i, .lst .frz 3 .i]), (12, .one (.addr 6 0)), (13, .slot false [.lst .own 3 .i, .lst .own 3 .i]), (14, .one (.addr 7 0)), (15, .slot false [.lst .own 3 .i, .lst .own 3 .i]), (20, .one .i), (72, .one .bool)]
noncomputable def F28.X10 (N : Nat) : LpC Try.prog F28.fx := mkL (F28.cs N) [] ((loopsOf (bodyOf Try.f28)).getD 1 .skip) 10 [0,5,6,7,10] (by kernel_rfl) (by kernel_rfl) (by kernel_rfl) F28.s10 (fun n x k => F28.l10 N n x.1 x.2.1 x.2.2.1 x.2.2.2.1 x.2.2.2.2.1 x.2.2.2.2.2.1 x.2.2.2.2.2.2.1 x.2.2.2.2.2.2.2.1 x.2.2.2.2.2.2.2.2.1 (fun r0 r1 r2 r3 r4 r5 r6 r7 r8 r9 => k (.exit 2) (Sh.mk F28.e10_0 (r0, r1, r2, r3, r4, r5, r6, r7, r8, r9, ())))) (fun _ _ => rfl) (fun _ _ _ => by kernel_rfl) N
noncomputable def F28.C {β : Type} (N : Nat) := (Sealed fun β => @F28.K β).1 β N
theorem F28.C_eq {β : Type} (N : Nat) : @F28.C β N = @F28.K β N := congrFun (congrFun (Sealed fun β => @F28.K β).2 β) N
noncomputable def F28.X (N : Nat) : Ctr Try.prog := mkF 28 Try.f28 F28.fx (F28.cs N) [F28.X3 N, F28.X10 N] F28.i (fun x k => F28.C N x.1 x.2.1 x.2.2.1 x.2.2.2.1 x.2.2.2.2.1 x.2.2.2.2.2.1 x.2.2.2.2.2.2.1 x.2.2.2.2.2.2.2.1 (fun r0 r1 r2 r3 => k (Sh.mk F28.o0 (r0, r1, r2, r3, ())))) (by intros; rw [F28.C_eq]; kernel_rfl) (by kernel_rfl) (by kernel_rfl) (by kernel_rfl) (by kernel_rfl) rfl (by kernel_rfl) rfl (by kernel_rfl) (by kernel_rfl) (by kernel_rfl) (.dead _ 28) rfl
end Go.Vi.B
/- Settings, fans and doors that are made. -/
namespace Go.Vi.A
/-- Fans and doors with their true states. -/
structure Eqp (m : Nat) (fa : List Fa) (dr : List Do) (sf sd : List Int) : Prop where
  nf : fa.length ≤ 2
  nd : dr.length ≤ 2
  lf : sf.length = fa.length
  ld : sd.length = dr.length
  fan : ∀ f ∈ fa, 0 ≤ f.1 ∧ f.1 < (m : Int) ∧ Pts f.2.2.2
  door : ∀ d ∈ dr, 0 ≤ d.1 ∧ d.1 < (m : Int) ∧ d.2.1 = -1 ∧ Rst d.2.2
  f : ∀ x ∈ sf, 0 ≤ x ∧ x ≤ 2
  d : ∀ (j : Nat) d x, dr[j]? = some d → sd[j]? = some x → 0 ≤ x ∧ x < (d.2.2.length : Int)
/-- A state that is doubted, or not. -/
structure Dbt (s s' : List Int) : Prop where
  len : s'.length = s.length
  or : ∀ (j : Nat) x x', s[j]? = some x → s'[j]? = some x' → x' = x ∨ x' = -1
theorem SetOk.fit {fa : List Fa} {dr : List Do} {sf sd : List Int} (h : SetOk fa dr sf sd) : fitE fa dr sf sd = 0 := by
  unfold fitE
  rw [if_pos (by have := h.lf; omega), if_pos (by have := h.ld; omega), thn_zero, ferr_zero, ferr_zero]
  refine ⟨fun j x hx => ?_, fun j x hx => ?_⟩
  · have := h.f x (List.mem_of_getElem? hx)
    unfold stF; rw [if_neg (by omega), if_neg (by omega)]
  · obtain ⟨d, hd⟩ := getl (show j < dr.length by have := idx hx; rw [← h.ld]; exact this)
    have := h.d j d x hd hx
    unfold stD; rw [Nat.zero_add, getD_eq hd, if_neg (by omega), if_neg (by omega)]
theorem SetOk.snocF {fa : List Fa} {dr : List Do} {sf sd : List Int} {f : Fa} {x : Int} (h : SetOk fa dr sf sd) (h0 : -1 ≤ x) (h1 : x ≤ 2) : SetOk (fa ++ [f]) dr (sf ++ [x]) sd :=
  ⟨by simp [h.lf], h.ld, fun y hy => by
    rcases List.mem_append.1 hy with hy | hy
    · exact h.f y hy
    · simp only [List.mem_singleton] at hy; omega, h.d⟩
theorem SetOk.snocD {fa : List Fa} {dr : List Do} {sf sd : List Int} {d : Do} {x : Int} (h : SetOk fa dr sf sd) (h0 : -1 ≤ x) (h1 : x < (d.2.2.length : Int)) : SetOk fa (dr ++ [d]) sf (sd ++ [x]) :=
  ⟨h.lf, by simp [h.ld], h.f, fun j e y he hy => by
    rcases snoc_get he with ⟨hj, he⟩ | ⟨hj, rfl⟩
    · rcases snoc_get hy with ⟨hj', hy⟩ | ⟨hj', rfl⟩
      · exact h.d j e y he hy
      · have := h.ld; omega
    · rcases snoc_get hy with ⟨hj', hy⟩ | ⟨hj', rfl⟩
      · have := h.ld; omega
      · exact ⟨h0, h1⟩⟩
theorem Dbt.snoc {s s' : List Int} {x x' : Int} (h : Dbt s s') (hx : x' = x ∨ x' = -1) : Dbt (s ++ [x]) (s' ++ [x']) :=
  ⟨by simp [h.len], fun j y y' hy hy' => by
    rcases snoc_get hy with ⟨hj, hy⟩ | ⟨hj, rfl⟩
    · rcases snoc_get hy' with ⟨hj', hy'⟩ | ⟨hj', rfl⟩
      · exact h.or j y y' hy hy'
      · have := h.len; omega
    · rcases snoc_get hy' with ⟨hj', hy'⟩ | ⟨hj', rfl⟩
      · have := h.len; omega
      · exact hx⟩
end Go.Vi.A
namespace Go.Vi.B
open Go.Proofs Go.Vi.A
set_option linter.unusedVariables false
set_option linter.unusedSimpArgs false
variable {β : Type} {N : Nat} (hN : 1000 ≤ N)
include hN in
theorem draw_Setting {l : List Int} {a : Int} (h : Cod l a) (pl : List Pl) (ro : List Ro) {fa : List Fa} {dr : List Do} (hf : fa.length ≤ 500) (hd : dr.length ≤ 500) (hr : ∀ d ∈ dr, d.2.2.length ≤ 500) :
    ∃ sf sd a', Cod l a' ∧ SetOk fa dr sf sd ∧ ∀ k : List Int → List Int → List Int → Int → Option β, F11.C N l a pl ro fa dr k = k sf sd l a' := by
  obtain ⟨⟨a1, sf⟩, ⟨c1, s1⟩, e1⟩ := lfor (len := fa.length) (δ := (List Int → Int → List Pl → List Ro → List Fa → List Do → List Int → List Int → List Int → List Int → Int → Bool → Option β) → Option β)
    (L := fun n j (m : Int × List Int) K => F11.l3 N n l m.1 pl ro fa dr [] [] m.2 [] (j : Int) K) (k := fun m K => K l m.1 pl ro fa dr [] [] m.2 [] (fa.length : Int) false)
    (fun j m => Cod l m.1 ∧ SetOk (fa.take j) [] m.2 [])
    (fun n m hm => funext fun K => by simp only [F11.l3, res, Int.lt_irrefl, if_false, decide_false])
    (fun j m hj hm => by
      obtain ⟨r, a', hc, hn, e⟩ := draw_Next (β := β) (N := N) hm.1 4
      have r0 := hn.lo; have r1 := hn.hi (by omega)
      obtain ⟨f, hx⟩ := getl hj
      refine ⟨(a', m.2 ++ [r - 1]), ⟨hc, by rw [take_snoc hx]; exact hm.2.snocF (by omega) (by omega)⟩, fun n => funext fun K => ?_⟩
      have hl := hm.2.lf
      rw [List.length_take] at hl
      simp only [F11.l3, res, e, w_succ (show j < 4000000000 by omega), w_id (x := r - 1) (by omega) (by omega)]
      rw [if_pos (by omega), if_pos (by omega)]) 0 (a, []) N ⟨h, ⟨rfl, rfl, by simp, by simp⟩⟩ (by omega) (by omega)
  obtain ⟨⟨a2, sd⟩, ⟨c2, s2⟩, e2⟩ := lfor (len := dr.length) (δ := (List Int → Int → List Pl → List Ro → List Fa → List Do → List Int → List Int → List Int → List Int → Int → Bool → Option β) → Option β)
    (L := fun n j (m : Int × List Int) K => F11.l7 N n l m.1 pl ro fa dr [] [] sf m.2 (j : Int) K) (k := fun m K => K l m.1 pl ro fa dr [] [] sf m.2 (dr.length : Int) false)
    (fun j m => Cod l m.1 ∧ SetOk [] (dr.take j) [] m.2)
    (fun n m hm => funext fun K => by simp only [F11.l7, res, Int.lt_irrefl, if_false, decide_false])
    (fun j m hj hm => by
      obtain ⟨d, hx⟩ := getl hj
      have hl6 := hr d (List.mem_of_getElem? hx)
      obtain ⟨r, a', hc, hn, e⟩ := draw_Next (β := β) (N := N) hm.1 ((d.2.2.length : Int) + 1)
      have r0 := hn.lo; have r1 := hn.hi (by omega)
      refine ⟨(a', m.2 ++ [r - 1]), ⟨hc, by rw [take_snoc hx]; exact hm.2.snocD (by omega) (by omega)⟩, fun n => funext fun K => ?_⟩
      have hl := hm.2.ld
      rw [List.length_take] at hl
      simp only [F11.l7, res, Int.toNat_natCast, hx, ge_some, w_id (x := (d.2.2.length : Int) + 1) (by omega) (by omega), e, w_succ (show j < 4000000000 by omega), w_id (x := r - 1) (by omega) (by omega)]
      rw [if_pos (by omega), if_pos (by omega), if_pos (by omega)]) 0 (a1, []) N ⟨c1, ⟨rfl, rfl, by simp, by simp⟩⟩ (by omega) (by omega)
  rw [List.take_of_length_le (Nat.le_refl _)] at s1 s2
  refine ⟨sf, sd, a2, c2, ⟨s1.lf, s2.ld, s1.f, s2.d⟩, fun k => ?_⟩
  rw [F11.C_eq]; unfold F11.K
  exact (congrFun e1 _).trans (congrFun e2 _)
include hN in
theorem draw_doubts {l : List Int} {a : Int} (h : Cod l a) (pl : List Pl) (ro : List Ro) (fa : List Fa) (dr : List Do) {sf sd : List Int} (hf : sf.length ≤ 500) (hd : sd.length ≤ 500) :
    ∃ sf' sd' a', Cod l a' ∧ Dbt sf sf' ∧ Dbt sd sd' ∧ ∀ k : List Int → List Int → List Int → Int → Option β, F28.C N l a pl ro fa dr sf sd k = k sf' sd' l a' := by
  obtain ⟨⟨a1, sf'⟩, ⟨c1, s1⟩, e1⟩ := lfor (len := sf.length) (δ := (List Int → Int → List Int → List Int → List Int → List Int → List Int → List Int → Int → Bool → Option β) → Option β)
    (L := fun n j (m : Int × List Int) K => F28.l3 N n l m.1 sf sd [] [] m.2 [] (j : Int) K) (k := fun m K => K l m.1 sf sd [] [] m.2 [] (sf.length : Int) false)
    (fun j m => Cod l m.1 ∧ Dbt (sf.take j) m.2)
    (fun n m hm => funext fun K => by simp only [F28.l3, res, Int.lt_irrefl, if_false, decide_false])
    (fun j m hj hm => by
      obtain ⟨b, a', hc, e⟩ := draw_One (β := β) (N := N) hm.1 5
      obtain ⟨x, hx⟩ := getl hj
      have hl := hm.2.len
      rw [List.length_take] at hl
      refine ⟨(a', m.2 ++ [if b = true then -1 else x]), ⟨hc, by rw [take_snoc hx]; exact hm.2.snoc (by split <;> simp)⟩, fun n => funext fun K => ?_⟩
      simp only [F28.l3, res, Int.toNat_natCast, hx, ge_some, e, w_succ (show j < 4000000000 by omega)]
      rw [if_pos (by omega), if_pos (by omega)]
      cases b
      · simp only [res, Bool.false_eq_true, if_false]; rw [if_pos (by omega)]
      · simp only [res, if_true]; rw [if_pos (by omega)]) 0 (a, []) N ⟨h, ⟨rfl, by simp⟩⟩ (by omega) (by omega)
  obtain ⟨⟨a2, sd'⟩, ⟨c2, s2⟩, e2⟩ := lfor (len := sd.length) (δ := (List Int → Int → List Int → List Int → List Int → List Int → List Int → List Int → Int → Bool → Option β) → Option β)
    (L := fun n j (m : Int × List Int) K => F28.l10 N n l m.1 sf sd [] [] sf' m.2 (j : Int) K) (k := fun m K => K l m.1 sf sd [] [] sf' m.2 (sd.length : Int) false)
    (fun j m => Cod l m.1 ∧ Dbt (sd.take j) m.2)
    (fun n m hm => funext fun K => by simp only [F28.l10, res, Int.lt_irrefl, if_false, decide_false])
    (fun j m hj hm => by
      obtain ⟨b, a', hc, e⟩ := draw_One (β := β) (N := N) hm.1 5
      obtain ⟨x, hx⟩ := getl hj
      have hl := hm.2.len
      rw [List.length_take] at hl
      refine ⟨(a', m.2 ++ [if b = true then -1 else x]), ⟨hc, by rw [take_snoc hx]; exact hm.2.snoc (by split <;> simp)⟩, fun n => funext fun K => ?_⟩
      simp only [F28.l10, res, Int.toNat_natCast, hx, ge_some, e, w_succ (show j < 4000000000 by omega)]
      rw [if_pos (by omega), if_pos (by omega)]
      cases b
      · simp only [res, Bool.false_eq_true, if_false]; rw [if_pos (by omega)]
      · simp only [res, if_true]; rw [if_pos (by omega)]) 0 (a1, []) N ⟨c1, ⟨rfl, by simp⟩⟩ (by omega) (by omega)
  rw [List.take_of_length_le (Nat.le_refl _)] at s1 s2
  refine ⟨sf', sd', a2, c2, s1, s2, fun k => ?_⟩
  rw [F28.C_eq]; unfold F28.K
  exact (congrFun e1 _).trans (congrFun e2 _)
include hN in
theorem draw_equipped {l : List Int} {a : Int} (h : Cod l a) (pl : List Pl) {ro : List Ro} (hr : ro.length ≤ 500) :
    ∃ sf sd fa dr a', Cod l a' ∧ Eqp ro.length fa dr sf sd ∧ ∀ k : List Int → List Int → List Int → Int → List Pl → List Ro → List Fa → List Do → Option β, F26.C N l a pl ro [] [] k = k sf sd l a' pl ro fa dr := by
  obtain ⟨n1, a1, c1, x1, e1⟩ := draw_Next (β := β) (N := N) h 3
  obtain ⟨d, rfl⟩ := Int.eq_ofNat_of_zero_le x1.lo
  have hd2 := x1.hi (by omega)
  have key1 : ∀ (d : Nat) (fa : List Fa) (sf : List Int) (a : Int), Cod l a → fa.length + d ≤ 2 → Eqp ro.length fa [] sf [] → ∃ fa' sf' a', Cod l a' ∧ Eqp ro.length fa' [] sf' [] ∧ ∀ n, d < n → ∀ K : List Int → Int → List Pl → List Ro → List Fa → List Do → List Int → List Int → List Int → List Int → Int → Option β,
      F26.l4 N n l a pl ro fa [] [] [] sf [] (ro.length : Int) (d : Int) (fun z1 z2 z3 z4 z5 z6 z7 z8 z9 z10 z11 _ _ => K z1 z2 z3 z4 z5 z6 z7 z8 z9 z10 z11) = K l a' pl ro fa' [] [] [] sf' [] (ro.length : Int) := by
    intro d
    induction d with
    | zero =>
      intro fa sf a hc _ hq
      refine ⟨fa, sf, a, hc, hq, fun n hn K => ?_⟩
      obtain ⟨n, rfl⟩ : ∃ m, n = m + 1 := ⟨n - 1, by omega⟩
      simp only [F26.l4, res, Int.natCast_zero, gt_iff_lt, Int.lt_irrefl, if_false, decide_false]
    | succ d ih =>
      intro fa sf a hc hl hq
      by_cases c0 : ro.length = 0
      · refine ⟨fa, sf, a, hc, hq, fun n hn K => ?_⟩
        obtain ⟨n, rfl⟩ : ∃ m, n = m + 1 := ⟨n - 1, by omega⟩
        simp only [F26.l4, res]
        rw [if_pos (by omega), if_neg (by omega)]
      obtain ⟨r, a1, c1, y1, e1⟩ := draw_Next (β := β) (N := N) hc (ro.length : Int)
      obtain ⟨b, a2, c2, e2⟩ := draw_One (β := β) (N := N) c1 3
      obtain ⟨b', a3, c3, e3⟩ := draw_One (β := β) (N := N) c2 3
      obtain ⟨xs, a4, c4, p4, e4⟩ := draw_Curve (β := β) hN c3
      obtain ⟨s, a5, c5, y5, e5⟩ := draw_Next (β := β) (N := N) c4 3
      have r0 := y1.lo; have r1 := y1.hi (by omega); have s0 := y5.lo; have s1 := y5.hi (by omega)
      have lf := hq.lf
      obtain ⟨fa', sf', a', hc', hq', e⟩ := ih (fa ++ [(r, (b, (b', xs)))]) (sf ++ [s]) a5 c5 (by simp; omega) ⟨by simp; omega, hq.nd, by simp [hq.lf], hq.ld, fun f hf => by
          rcases List.mem_append.1 hf with hf | hf
          · exact hq.fan f hf
          · simp only [List.mem_singleton] at hf; subst hf; exact ⟨r0, r1, p4⟩, hq.door, fun x hx => by
          rcases List.mem_append.1 hx with hx | hx
          · exact hq.f x hx
          · simp only [List.mem_singleton] at hx; omega, hq.d⟩
      refine ⟨fa', sf', a', hc', hq', fun n hn K => ?_⟩
      obtain ⟨n, rfl⟩ : ∃ m, n = m + 1 := ⟨n - 1, by omega⟩
      simp only [F26.l4, res, e1, e2, e3, e4, e5]
      rw [if_pos (by omega), if_pos (by omega), if_pos (by omega), if_pos (by omega), w_id (x := ((d + 1 : Nat) : Int) - 1) (by omega) (by omega), show ((d + 1 : Nat) : Int) - 1 = (d : Int) by omega]
      exact e n (by omega) K
  obtain ⟨fa, sf, a2, c2, q2, e2⟩ := key1 d [] [] a1 c1 (by simp; omega) ⟨by simp, by simp, rfl, rfl, by simp, by simp, by simp, by simp⟩
  obtain ⟨n3, a3, c3, x3, e3⟩ := draw_Next (β := β) (N := N) c2 3
  obtain ⟨d3, rfl⟩ := Int.eq_ofNat_of_zero_le x3.lo
  have hd3 := x3.hi (by omega)
  have key2 : ∀ (d : Nat) (dr : List Do) (sd : List Int) (a : Int), Cod l a → dr.length + d ≤ 2 → Eqp ro.length fa dr sf sd → ∃ dr' sd' a', Cod l a' ∧ Eqp ro.length fa dr' sf sd' ∧ ∀ n, d < n → ∀ K : List Int → Int → List Pl → List Ro → List Fa → List Do → List Int → List Int → Option β,
      F26.l9 N n l a pl ro fa dr [] [] sf sd (ro.length : Int) (d : Int) (fun z1 z2 z3 z4 z5 z6 _ _ z9 z10 _ _ _ => K z1 z2 z3 z4 z5 z6 z9 z10) = K l a' pl ro fa dr' sf sd' := by
    intro d
    induction d with
    | zero =>
      intro dr sd a hc _ hq
      refine ⟨dr, sd, a, hc, hq, fun n hn K => ?_⟩
      obtain ⟨n, rfl⟩ : ∃ m, n = m + 1 := ⟨n - 1, by omega⟩
      simp only [F26.l9, res, Int.natCast_zero, gt_iff_lt, Int.lt_irrefl, if_false, decide_false]
    | succ d ih =>
      intro dr sd a hc hl hq
      by_cases c0 : ro.length = 0
      · refine ⟨dr, sd, a, hc, hq, fun n hn K => ?_⟩
        obtain ⟨n, rfl⟩ : ∃ m, n = m + 1 := ⟨n - 1, by omega⟩
        simp only [F26.l9, res]
        rw [if_pos (by omega), if_neg (by omega)]
      obtain ⟨r, a1, c1, y1, e1⟩ := draw_Next (β := β) (N := N) hc (ro.length : Int)
      obtain ⟨xs, a2, c2, p2, e2⟩ := draw_Door (β := β) hN c1 r
      obtain ⟨s, a3, c3, y3, e3⟩ := draw_Next (β := β) (N := N) c2 (xs.length : Int)
      have t1 := p2.two; have t2 := p2.le
      have r0 := y1.lo; have r1 := y1.hi (by omega); have s0 := y3.lo; have s1 := y3.hi (by omega)
      have ld := hq.ld
      obtain ⟨dr', sd', a', hc', hq', e⟩ := ih (dr ++ [(r, (-1, xs))]) (sd ++ [s]) a3 c3 (by simp; omega) ⟨hq.nf, by simp; omega, hq.lf, by simp [hq.ld], hq.fan, fun f hf => by
          rcases List.mem_append.1 hf with hf | hf
          · exact hq.door f hf
          · simp only [List.mem_singleton] at hf; subst hf; exact ⟨r0, r1, rfl, p2⟩, hq.f, fun j e y he hy => by
          rcases snoc_get he with ⟨hj, he⟩ | ⟨hj, rfl⟩
          · rcases snoc_get hy with ⟨hj', hy⟩ | ⟨hj', rfl⟩
            · exact hq.d j e y he hy
            · omega
          · rcases snoc_get hy with ⟨hj', hy⟩ | ⟨hj', rfl⟩
            · omega
            · exact ⟨s0, s1⟩⟩
      refine ⟨dr', sd', a', hc', hq', fun n hn K => ?_⟩
      obtain ⟨n, rfl⟩ : ∃ m, n = m + 1 := ⟨n - 1, by omega⟩
      simp only [F26.l9, res, e1, e2, e3]
      rw [if_pos (by omega), if_pos (by omega), if_pos (by omega), if_pos (by omega), w_id (x := ((d + 1 : Nat) : Int) - 1) (by omega) (by omega), show ((d + 1 : Nat) : Int) - 1 = (d : Int) by omega]
      exact e n (by omega) K
  obtain ⟨dr, sd, a4, c4, q4, e4⟩ := key2 d3 [] [] a3 c3 (by simp; omega) q2
  refine ⟨sf, sd, fa, dr, a4, c4, q4, fun k => ?_⟩
  rw [F26.C_eq]; unfold F26.K
  rw [e1, e2 N (by omega), e3]
  exact e4 N (by omega) fun z1 z2 z3 z4 z5 z6 z9 z10 => k z9 z10 z1 z2 z3 z4 z5 z6
end Go.Vi.B
/- (*minecontrol/minecontroldraw.Codes).fit -/
namespace Go.Vi.B
open Go.Proofs
set_option linter.unusedVariables false
set_option maxRecDepth 100000
abbrev F27.i : Sh := [(0, .one (.addr 0 0)), (1, .slot false [.lst .pin 5 (.int .u8), .i]), (2, .one (.addr 1 0)), (3, .slot false [.lst .own 62 kd1, .lst .own 71 kd8, .lst .own 100 kd11, .lst .own 55 kd13]), (4, .agg [.lst .frz 3 .i, .lst .frz 3 .i]), (6, .agg [.lst .frz 3 .i, .lst .frz 3 .i])]
abbrev F27.o0 : Sh := [(0, .tup []), (2, .one (.addr 1 0)), (3, .slot false [.lst .pin 5 (.int .u8), .i]), (4, .one (.addr 2 0)), (5, .slot false [.lst .own 62 kd1, .lst .own 71 kd8, .lst .own 100 kd11, .lst .own 55 kd13])]
noncomputable def F27.l8 {β : Type} (N : Nat) : Nat → (List Int) → Int → (List Pl) → (List Ro) → (List Fa) → (List Do) → (List Int) → (List Int) → (List Int) → (List Int) → Int → Nat → Int → Int → Int → (List Int → Int → List Pl → List Ro → List Fa → List Do → List Int → List Int → List Int → List Int → Int → Nat → Int → Int → Int → Bool → Option β) → Option β
 | 0, _, _, _, _, _, _, _, _, _, _, _, _, _, _, _, _ => none
 | n + 1, v0, v1, v2, v3, v4, v5, v6, v7, v8, v9, v10, v11, v12, v13, v14, k0 =>
  bl (v14 < (v5.length : Int)) (k0 v0 v1 v2 v3 v4 v5 v6 v7 v8 v9 v10 v11 v12 v13 v14 (decide (v14 < (v5.length : Int)))) <|
  ck (0 ≤ v14) <|
  ge (v5[v14.toNat]?) fun _ =>
  ge (v5[v14.toNat]?) fun _ =>
  ge (v5[v14.toNat]?) fun x3 =>
  bl (x3.1 = v10) (F27.l8 N n v0 v1 v2 v3 v4 v5 v6 v7 v8 v9 v10 v11 v12 v13 (w (v14 + 1)) k0) <|
  ck (0 ≤ v14) <|
  ge (v5[v14.toNat]?) fun _ =>
  ge (v5[v14.toNat]?) fun x5 =>
  ck (0 ≤ v14) <|
  ge (v7[v14.toNat]?) fun x6 =>
  F52.C N x5.1 x5.2.1 x5.2.2 x6 fun r7 _ =>
  F27.l8 N n v0 v1 v2 v3 v4 v5 v6 v7 v8 v9 v10 v11 v12 (w (v13 + r7)) (w (v14 + 1)) k0
noncomputable def F27.l14 {β : Type} (N : Nat) : Nat → (List Int) → Int → (List Pl) → (List Ro) → (List Fa) → (List Do) → (List Int) → (List Int) → (List Int) → (List Int) → Int → Nat → Int → Int → Int → (List Int → Int → List Pl → List Ro → List Fa → List Do → List Int → List Int → List Int → List Int → Int → Nat → Int → Int → Int → Bool → Option β) → Option β
 | 0, _, _, _, _, _, _, _, _, _, _, _, _, _, _, _, _ => none
 | n + 1, v0, v1, v2, v3, v4, v5, v6, v7, v8, v9, v10, v11, v12, v13, v14, k0 =>
  bl (v14 < (v4.length : Int)) (k0 v0 v1 v2 v3 v4 v5 v6 v7 v8 v9 v10 v11 v12 v13 v14 (decide (v14 < (v4.length : Int)))) <|
  ck (0 ≤ v14) <|
  ge (v4[v14.toNat]?) fun _ =>
  ge (v4[v14.toNat]?) fun _ =>
  ge (v4[v14.toNat]?) fun x3 =>
  bl (x3.1 = v10) (F27.l14 N n v0 v1 v2 v3 v4 v5 v6 v7 v8 v9 v10 v11 v12 v13 (w (v14 + 1)) k0) <|
  ck (0 ≤ v14) <|
  ge (v4[v14.toNat]?) fun _ =>
  ge (v4[v14.toNat]?) fun x5 =>
  ck (0 ≤ v14) <|
  ge (v6[v14.toNat]?) fun x6 =>
  F53.C N x5.1 x5.2.1 x5.2.2.1 x5.2.2.2 x6 v12 fun r7 _ =>
  F27.l14 N n v0 v1 v2 v3 v4 v5 v6 v7 v8 v9 v10 v11 v12 (w (v13 - r7)) (w (v14 + 1)) k0
noncomputable def F27.l2 {β : Type} (N : Nat) : Nat → (List Int) → Int → (List Pl) → (List Ro) → (List Fa) → (List Do) → (List Int) → (List Int) → (List Int) → (List Int) → Int → (List Int → Int → List Pl → List Ro → List Fa → List Do → List Int → List Int → List Int → List Int → Int → Bool → Option β) → Option β
 | 0, _, _, _, _, _, _, _, _, _, _, _, _ => none
 | n + 1, v0, v1, v2, v3, v4, v5, v6, v7, v8, v9, v10, k0 =>
  bl (v10 < (v3.length : Int)) (k0 v0 v1 v2 v3 v4 v5 v6 v7 v8 v9 v10 (decide (v10 < (v3.length : Int)))) <|
  ck (0 ≤ v10) <|
  ge (v3[v10.toNat]?) fun _ =>
  ck (0 ≤ v10) <|
  ge (v9[v10.toNat]?) fun x2 =>
  ge (v3[v10.toNat]?) fun _ =>
  ge (v3[v10.toNat]?) fun _ =>
  ge (v3[v10.toNat]?) fun _ =>
  ge (v3[v10.toNat]?) fun x6 =>
  ge (v3[v10.toNat]?) fun _ =>
  ge (v3[v10.toNat]?) fun _ =>
  ge (v3[v10.toNat]?) fun _ =>
  ge (v3[v10.toNat]?) fun x10 =>
  ge (v3[v10.toNat]?) fun _ =>
  ge (v3[v10.toNat]?) fun _ =>
  ge (v3[v10.toNat]?) fun _ =>
  ge (v3[v10.toNat]?) fun x14 =>
  F23.C N v0 v1 (w ((w (x10.2.2.2.2.2.2.1.2 - x14.2.2.2.2.2.2.1.1)) + 1)) fun r15 r16 r17 =>
  F27.l8 N N r16 r17 v2 v3 v4 v5 v6 v7 v8 v9 v10 v10.toNat x2 (w (x6.2.2.2.2.2.2.1.1 + r15)) 0 fun z18 z19 z20 z21 z22 z23 z24 z25 z26 z27 z28 z29 z30 z31 _ _ =>
  ge (z21[z29]?) fun _ =>
  ge (z21[z29]?) fun _ =>
  ge (z21[z29]?) fun x36 =>
  ck (0 ≤ x36.1) <|
  ge (z26[x36.1.toNat]?) fun x37 =>
  ge (z21[z29]?) fun _ =>
  ge (z21[z29]?) fun _ =>
  ge (z21[z29]?) fun x40 =>
  ck (0 ≤ x40.2.1) <|
  ge (z26[x40.2.1.toNat]?) fun x41 =>
  F27.l14 N N z18 z19 z20 z21 z22 z23 z24 z25 z26 z27 z28 z29 z30 (w ((w ((w (z31 * (if (w (0 - z30)) > z30 then (w (0 - z30)) else z30))) * z30)) - (w (x37 - x41)))) 0 fun z42 z43 z44 z45 z46 z47 z48 z49 z50 z51 z52 z53 _ z55 _ _ =>
  F23.C N z42 z43 30 fun r58 r59 r60 =>
  F23.C N r59 r60 30 fun r61 r62 r63 =>
  ge (z45[z53]?) fun _ =>
  ge (z45[z53]?) fun _ =>
  ge (z45[z53]?) fun x66 =>
  F27.l2 N n r62 r63 z44 (z45.set z53 (x66.1, (x66.2.1, (x66.2.2.1, (x66.2.2.2.1, (x66.2.2.2.2.1, (x66.2.2.2.2.2.1, ((x66.2.2.2.2.2.2.1.1, x66.2.2.2.2.2.2.1.2), ((w (z55 - r58)), (w (z55 + r61))))))))))) z46 z47 z48 z49 z50 z51 (w (z52 + 1)) k0
noncomputable def F27.K {β : Type} (N : Nat) (a0 : List Int) (a1 : Int) (a2 : List Pl) (a3 : List Ro) (a4 : List Fa) (a5 : List Do) (a6 a7 a8 a9 : List Int) (k0 : List Int → Int → List Pl → List Ro → List Fa → List Do → Option β) : Option β :=
 F27.l2 N N a0 a1 a2 a3 a4 a5 a6 a7 a8 a9 0 fun z67 z68 z69 z70 z71 z72 _ _ _ _ _ _ =>
 k0 z67 z68 z69 z70 z71 z72
noncomputable def F27.fx : Fx := ⟨Try.prog, [], [], [(0,[0,1,6,7]),(1,[0,1,6,7,8]),(2,[0,1,6,7,8,22]),(3,[0,1,6,7,8]),(4,[0,1,6,7,8,9]),(5,[0,1,6,7,8,9,10]),(6,[0,1,6,7,8,9,10,11]),(7,[0,1,6,7,8,9,10,11,12]),(8,[0,1,6,7,8,9,10,11,12,63]),(9,[0,1,6,7,8,9,10,11,12]),(10,[0,1,6,7,8,9,10,11,12,75]),(11,[0,1,6,7,8,9,10,11,12]),(12,[0,1,6,7,8,9,10,13]),(13,[0,1,6,7,8,9,10,13,14]),(14,[0,1,6,7,8,9,10,13,14,124]),(15,[0,1,6,7,8,9,10,13,14]),(16,[0,1,6,7,8,9,10,13,14,136]),(17,[0,1,6,7,8,9,10,13,14]),(18,[0,1,6,7,8])], 166, [0, 1]⟩
noncomputable def F27.cs (N : Nat) : List (Ctr Try.prog) := [F23.X N, F52.X N, F53.X N]
abbrev F27.s8 : Sh := [(0, .one (.addr 0 0)), (1, .slot false [.lst .pin 5 (.int .u8), .i]), (2, .one (.addr 1 0)), (3, .slot false [.lst .own 62 kd1, .lst .own 71 kd8, .lst .own 100 kd11, .lst .own 55 kd13]), (12, .one (.addr 6 0)), (13, .slot false [.lst .frz 3 .i, .lst .frz 3 .i]), (14, .one (.addr 7 0)), (15, .slot false [.lst .frz 3 .i, .lst .frz 3 .i]), (16, .one .i), (18, .one (.eaddr 1 1 0)), (20, .one .i), (22, .one .i), (24, .one .i)]
abbrev F27.e8_0 : Sh := [(0, .one (.addr 0 0)), (1, .slot false [.lst .pin 5 (.int .u8), .i]), (2, .one (.addr 1 0)), (3, .slot false [.lst .own 62 kd1, .lst .own 71 kd8, .lst .own 100 kd11, .lst .own 55 kd13]), (12, .one (.addr 6 0)), (13, .slot false [.lst .frz 3 .i, .lst .frz 3 .i]), (14, .one (.addr 7 0)), (15, .slot false [.lst .frz 3 .i, .lst .frz 3 .i]), (16, .one .i), (18, .one (.eaddr 1 1 0)), (20, .one .i), (22, .one .i), (24, .one .i), (126, .one .bool)]
noncomputable def F27.X8 (N : Nat) : LpC Try.prog F27.fx := mkL (F27.cs N) [] ((loopsOf ((loopsOf (bodyOf Try.f27)).getD 0 .skip)).getD 0 .skip) 8 [0,1,6,7,8,9,10,11,12] (by kernel_rfl) (by kernel_rfl) (by kernel_rfl) F27.s8 (fun n x k => F27.l8 N n x.1 x.2.1 x.2.2.1 x.2.2.2.1 x.2.2.2.2.1 x.2.2.2.2.2.1 x.2.2.2.2.2.2.1 x.2.2.2.2.2.2.2.1 x.2.2.2.2.2.2.2.2.1 x.2.2.2.2.2.2.2.2.2.1 x.2.2.2.2.2.2.2.2.2.2.1 x.2.2.2.2.2.2.2.2.2.2.2.1 x.2.2.2.2.2.2.2.2.2.2.2.2.1 x.2.2.2.2.2.2.2.2.2.2.2.2.2.1 x.2.2.2.2.2.2.2.2.2.2.2.2.2.2.1 (fun r0 r1 r2 r3 r4 r5 r6 r7 r8 r9 r10 r11 r12 r13 r14 r15 => k (.exit 2) (Sh.mk F27.e8_0 (r0, r1, r2, r3, r4, r5, r6, r7, r8, r9, r10, r11, r12, r13, r14, r15, ())))) (fun _ _ => rfl) (fun _ _ _ => by kernel_rfl) N
abbrev F27.s14 : Sh := [(0, .one (.addr 0 0)), (1, .slot false [.lst .pin 5 (.int .u8), .i]), (2, .one (.addr 1 0)), (3, .slot false [.lst .own 62 kd1, .lst .own 71 kd8, .lst .own 100 kd11, .lst .own 55 kd13]), (12, .one (.addr 6 0)), (13, .slot false [.lst .frz 3 .i, .lst .frz 3 .i]), (14, .one (.addr 7 0)), (15, .slot false [.lst .frz 3 .i, .lst .frz 3 .i]), (16, .one .i), (18, .one (.eaddr 1 1 0)), (20, .one .i), (26, .one .i), (28, .one .i)]
abbrev F27.e14_0 : Sh := [(0, .one (.addr 0 0)), (1, .slot false [.lst .pin 5 (.int .u8), .i]), (2, .one (.addr 1 0)), (3, .slot false [.lst .own 62 kd1, .lst .own 71 kd8, .lst .own 100 kd11, .lst .own 55 kd13]), (12, .one (.addr 6 0)), (13, .slot false [.lst .frz 3 .i, .lst .frz 3 .i]), (14, .one (.addr 7 0)), (15, .slot false [.lst .frz 3 .i, .lst .frz 3 .i]), (16, .one .i), (18, .one (.eaddr 1 1 0)), (20, .one .i), (26, .one .i), (28, .one .i), (248, .one .bool)]
noncomputable def F27.X14 (N : Nat) : LpC Try.prog F27.fx := mkL (F27.cs N) [] ((loopsOf ((loopsOf (bodyOf Try.f27)).getD 0 .skip)).getD 1 .skip) 14 [0,1,6,7,8,9,10,13,14] (by kernel_rfl) (by kernel_rfl) (by kernel_rfl) F27.s14 (fun n x k => F27.l14 N n x.1 x.2.1 x.2.2.1 x.2.2.2.1 x.2.2.2.2.1 x.2.2.2.2.2.1 x.2.2.2.2.2.2.1 x.2.2.2.2.2.2.2.1 x.2.2.2.2.2.2.2.2.1 x.2.2.2.2.2.2.2.2.2.1 x.2.2.2.2.2.2.2.2.2.2.1 x.2.2.2.2.2.2.2.2.2.2.2.1 x.2.2.2.2.2.2.2.2.2.2.2.2.1 x.2.2.2.2.2.2.2.2.2.2.2.2.2.1 x.2.2.2.2.2.2.2.2.2.2.2.2.2.2.1 (fun r0 r1 r2 r3 r4 r5 r6 r7 r8 r9 r10 r11 r12 r13 r14 r15 => k (.exit 4) (Sh.mk F27.e14_0 (r0, r1, r2, r3, r4, r5, r6, r7, r8, r9, r10, r11, r12, r13, r14, r15, ())))) (fun _ _ => rfl) (fun _ _ _ => by kernel_rfl) N
abbrev F27.s2 : Sh := [(0, .one (.addr 0 0)), (1, .slot false [.lst .pin 5 (.int .u8), .i]), (2, .one (.addr 1 0)), (3, .slot false [.lst .own 62 kd1, .lst .own 71 kd8, .lst .own 100 kd11, .lst .own 55 kd13]), (12, .one (.addr 6 0)), (13, .slot false [.lst .frz 3 .i, .lst .frz 3 .i]), (14, .one (.addr 7 0)), (15, .slot false [.lst .frz 3 .i, .lst .frz 3 .i]), (16, .one .i)]
abbrev F27.e2_0 : Sh := [(0, .one (.addr 0 0)), (1, .slot false [.lst .pin 5 (.int .u8), .i]), (2, .one (.addr 1 0)), (3, .slot false [.lst .own 62 kd1, .lst .own 71 kd8, .lst .own 100 kd11, .lst .own 55 kd13]), (12, .one (.addr 6 0)), (13, .slot false [.lst .frz 3 .i, .lst .frz 3 .i]), (14, .one (.addr 7 0)), (15, .slot false [.lst .frz 3 .i, .lst .frz 3 .i]), (16, .one .i), (44, .one .bool)]
noncomputable def F27.X2 (N : Nat) : LpC Try.prog F27.fx := mkL (F27.cs N) [F27.X8 N, F27.X14 N] ((loopsOf (bodyOf Try.f27)).getD 0 .skip) 2 [0,1,6,7,8] (by kernel_rfl) (by kernel_rfl) (by kernel_rfl) F27.s2 (fun n x k => F27.l2 N n x.1 x.2.1 x.2.2.1 x.2.2.2.1 x.2.2.2.2.1 x.2.2.2.2.2.1 x.2.2.2.2.2.2.1 x.2.2.2.2.2.2.2.1 x.2.2.2.2.2.2.2.2.1 x.2.2.2.2.2.2.2.2.2.1 x.2.2.2.2.2.2.2.2.2.2.1 (fun r0 r1 r2 r3 r4 r5 r6 r7 r8 r9 r10 r11 => k (.exit 0) (Sh.mk F27.e2_0 (r0, r1, r2, r3, r4, r5, r6, r7, r8, r9, r10, r11, ())))) (fun _ _ => rfl) (fun _ _ _ => by kernel_rfl) N
noncomputable def F27.C {β : Type} (N : Nat) := (Sealed fun β => @F27.K β).1 β N
theorem F27.C_eq {β : Type} (N : Nat) : @F27.C β N = @F27.K β N := congrFun (congrFun (Sealed fun β => @F27.K β).2 β) N
noncomputable def F27.X (N : Nat) : Ctr Try.prog := mkF 27 Try.f27 F27.fx (F27.cs N) [F27.X2 N] F27.i (fun x k => F27.C N x.1 x.2.1 x.2.2.1 x.2.2.2.1 x.2.2.2.2.1 x.2.2.2.2.2.1 x.2.2.2.2.2.2.1 x.2.2.2.2.2.2.2.1 x.2.2.2.2.2.2.2.2.1 x.2.2.2.2.2.2.2.2.2.1 (fun r0 r1 r2 r3 r4 r5 => k (Sh.mk F27.o0 (r0, r1, r2, r3, r4, r5, ())))) (by intros; rw [F27.C_eq]; kernel_rfl) (by kernel_rfl) (by kernel_rfl) (by kernel_rfl) (by kernel_rfl) rfl (by kernel_rfl) rfl (by kernel_rfl) (by kernel_rfl) (by kernel_rfl) (.dead _ 27) rfl
end Go.Vi.B
/- Lifts that are made so that a state fits. -/
namespace Go.Vi.A
/-- A road that is made. -/
structure MkRoad (n : Nat) (r : Ro) : Prop where
  frm : 0 ≤ r.1 ∧ r.1 < (n : Int)
  to : 0 ≤ r.2.1 ∧ r.2.1 < (n : Int)
  ne : r.1 ≠ r.2.1
  len : 1 ≤ r.2.2.1 ∧ r.2.2.1 ≤ 400
  area : 4 ≤ r.2.2.2.1 ∧ r.2.2.2.1 ≤ 30
  rest : 1 ≤ r.2.2.2.2.2.2.1.1 ∧ r.2.2.2.2.2.2.1.1 ≤ r.2.2.2.2.2.2.1.2 ∧ r.2.2.2.2.2.2.1.2 ≤ 22
/-- A lift with which a flow fits. -/
def lift0 (dz : DS) (fz : FS) (xp : List Int) (q i : Int) (r : Ro) (rest : Int) : Int :=
  (rest + (dsum dz i).1) * max q (-q) * q - (xp.getD r.1.toNat 0 - xp.getD r.2.1.toNat 0) - (fsum fz i q).1
structure FitR (dz : DS) (fz : FS) (xp : List Int) (q i : Int) (r r' : Ro) : Prop where
  frm : r'.1 = r.1
  to : r'.2.1 = r.2.1
  len : r'.2.2.1 = r.2.2.1
  area : r'.2.2.2.1 = r.2.2.2.1
  closed : r'.2.2.2.2.2.1 = r.2.2.2.2.2.1
  rest : r'.2.2.2.2.2.2.1 = r.2.2.2.2.2.2.1
  lift : ∃ rest c1 c2, r.2.2.2.2.2.2.1.1 ≤ rest ∧ rest ≤ r.2.2.2.2.2.2.1.2 ∧ (0 ≤ c1 ∧ c1 ≤ 29) ∧ (0 ≤ c2 ∧ c2 ≤ 29) ∧ r'.2.2.2.2.2.2.2 = (lift0 dz fz xp q i r rest - c1, lift0 dz fz xp q i r rest + c2)
theorem Eqp.dsum {m : Nat} {fa : List Fa} {dr : List Do} {sf sd : List Int} (h : Eqp m fa dr sf sd) (j : Nat) (i : Int) :
    0 ≤ (dsum ((dr.zip sd).take j) i).1 ∧ (dsum ((dr.zip sd).take j) i).1 ≤ (dsum ((dr.zip sd).take j) i).2 ∧ (dsum ((dr.zip sd).take j) i).2 ≤ 524288 ∧ (dsum ((dr.zip sd).take j) i).1 ≤ 1800 := by
  have hm : ∀ y ∈ (((dr.zip sd).take j).filter fun x => decide (x.1.1 = i)).map (fun x => dRest x.1.2.2 x.2), 0 ≤ y.1 ∧ y.1 ≤ y.2 ∧ y.2 ≤ 262144 := fun y hy => by
    obtain ⟨x, hx, rfl⟩ := List.mem_map.1 hy
    have hx := (List.of_mem_zip (List.mem_of_mem_take (List.mem_filter.1 hx).1)).1
    have := (h.door _ hx).2.2.2.rng
    exact dRest_bd (fun z hz => by have := this z hz; omega) _
  have hm2 : ∀ y ∈ (((dr.zip sd).take j).filter fun x => decide (x.1.1 = i)).map (fun x => dRest x.1.2.2 x.2), 0 ≤ y.1 ∧ y.1 ≤ y.2 ∧ y.2 ≤ 900 := fun y hy => by
    obtain ⟨x, hx, rfl⟩ := List.mem_map.1 hy
    have hx' := List.mem_of_mem_take (List.mem_filter.1 hx).1
    obtain ⟨k, hk⟩ := List.mem_iff_getElem?.1 hx'
    rw [List.getElem?_zip_eq_some] at hk
    have hd := (h.door _ (List.mem_of_getElem? hk.1)).2.2.2
    have hs := h.d k _ _ hk.1 hk.2
    have e : dRest x.1.2.2 x.2 = (x.1.2.2.getD x.2.toNat 0, x.1.2.2.getD x.2.toNat 0) := by unfold dRest; rw [if_neg (by omega), if_neg (by omega), if_neg (by omega), if_neg (by omega)]
    have hr := hd.rng _ (List.mem_of_getElem? (getD_get (d := 0) (show x.2.toNat < x.1.2.2.length by omega)))
    rw [e]; simp only; omega
  have hl : ((((dr.zip sd).take j).filter fun x => decide (x.1.1 = i)).map (fun x => dRest x.1.2.2 x.2)).length ≤ 2 := by
    have := List.length_filter_le (fun x : Do × Int => decide (x.1.1 = i)) ((dr.zip sd).take j)
    have a := h.nd
    simp only [List.length_map, List.length_take, List.length_zip] at this ⊢; omega
  have b1 := sumS_bd (lo := 0) (hi := 262144) (by omega) (by omega) _ 2 hm hl
  have b2 := sumS_bd (lo := 0) (hi := 900) (by omega) (by omega) _ 2 hm2 hl
  unfold A.dsum; omega
theorem Eqp.fsum {m : Nat} {fa : List Fa} {dr : List Do} {sf sd : List Int} (h : Eqp m fa dr sf sd) (s' : List Int) (j : Nat) (i q : Int) :
    -6000 ≤ (fsum ((fa.zip s').take j) i q).1 ∧ (fsum ((fa.zip s').take j) i q).1 ≤ (fsum ((fa.zip s').take j) i q).2 ∧ (fsum ((fa.zip s').take j) i q).2 ≤ 6000 := by
  have := sumS_bd (lo := -3000) (hi := 3000) (by omega) (by omega) ((((fa.zip s').take j).filter fun x => decide (x.1.1 = i)).map fun x => sure x.1.2.2.2 x.1.2.1 x.2 q) 2 (fun y hy => by
    obtain ⟨x, hx, rfl⟩ := List.mem_map.1 hy
    have hx := (List.of_mem_zip (List.mem_of_mem_take (List.mem_filter.1 hx).1)).1
    have hp := (h.fan _ hx).2.2
    have := hp.f1 0 (by have := hp.ne; omega)
    exact sure_max (hp.good (h.fan _ hx).1) this.2 (by omega) _ _ _) (by
    have := List.length_filter_le (fun x : Fa × Int => decide (x.1.1 = i)) ((fa.zip s').take j)
    have a := h.nf
    simp only [List.length_map, List.length_take, List.length_zip] at this ⊢; omega)
  unfold A.fsum A.bsum; omega
end Go.Vi.A
namespace Go.Vi.B
open Go.Proofs Go.Vi.A
set_option linter.unusedVariables false
set_option linter.unusedSimpArgs false
variable {β : Type} {N : Nat} (hN : 1000 ≤ N)
include hN in
theorem fit_doors {m : Nat} {fa : List Fa} {dr : List Do} {sf sd : List Int} (h : Eqp m fa dr sf sd) (l : List Int) (a : Int) (pl : List Pl) (ro : List Ro) (xp xq : List Int) (i : Int) (ii : Nat) (q rest : Int) (h0 : 0 ≤ rest ∧ rest ≤ 1000)
    (K : List Int → Int → List Pl → List Ro → List Fa → List Do → List Int → List Int → List Int → List Int → Int → Nat → Int → Int → Option β) :
    F27.l8 N N l a pl ro fa dr sf sd xp xq i ii q rest 0 (fun z0 z1 z2 z3 z4 z5 z6 z7 z8 z9 z10 z11 z12 z13 _ _ => K z0 z1 z2 z3 z4 z5 z6 z7 z8 z9 z10 z11 z12 z13) = K l a pl ro fa dr sf sd xp xq i ii q (rest + (dsum (dr.zip sd) i).1) := by
  have hl := h.nd
  obtain ⟨s, hs', e⟩ := lfor (len := dr.length) (L := fun n j (m : Int) => F27.l8 N n l a pl ro fa dr sf sd xp xq i ii q m (j : Int) (fun z0 z1 z2 z3 z4 z5 z6 z7 z8 z9 z10 z11 z12 z13 _ _ => K z0 z1 z2 z3 z4 z5 z6 z7 z8 z9 z10 z11 z12 z13)) (k := fun m => K l a pl ro fa dr sf sd xp xq i ii q m)
    (fun j m => m = rest + (dsum ((dr.zip sd).take j) i).1)
    (fun n m hm => by simp only [F27.l8, res, Int.lt_irrefl, if_false])
    (fun j m hj hm => by
      obtain ⟨x, hx⟩ := getl hj
      obtain ⟨s, hsj⟩ := getl (show j < sd.length by rw [h.ld]; exact hj)
      have b1 := h.dsum j i; have b2 := h.dsum (j + 1) i
      have h6 := (h.door x (List.mem_of_getElem? hx)).2.2.2.le
      refine ⟨_, rfl, fun n => ?_⟩
      subst hm
      rw [dsum_take (zip_get hx hsj)] at b2 ⊢
      simp only [F27.l8, res, Int.toNat_natCast, hx, hsj, ge_some, w_succ (show j < 4000000000 by omega), ref08_Rest hN _ _ (show x.2.2.length ≤ 500 by omega)]
      rw [if_pos (by omega), if_pos (by omega)]
      by_cases c : x.1 = i
      · rw [if_pos c] at b2
        simp only at b2
        rw [if_pos c, if_pos (by omega), if_pos (by omega), if_pos c, w_id (by omega) (by omega)]
        simp only [Int.add_assoc]
      · rw [if_neg c, if_neg c]) 0 rest N (by simp [dsum, sumS]) (by omega) (by omega)
  refine e.trans ?_
  rw [hs', List.take_of_length_le (by rw [List.length_zip]; omega)]
include hN in
theorem fit_fans {m : Nat} {fa : List Fa} {dr : List Do} {sf sd : List Int} (h : Eqp m fa dr sf sd) (l : List Int) (a : Int) (pl : List Pl) (ro : List Ro) (xp xq : List Int) (i : Int) (ii : Nat) (q lift : Int) (hq : -1048577 ≤ q ∧ q ≤ 1048577) (h0 : -1000000000000000000 ≤ lift ∧ lift ≤ 1000000000000000000)
    (K : List Int → Int → List Pl → List Ro → List Fa → List Do → List Int → List Int → List Int → List Int → Int → Nat → Int → Option β) :
    F27.l14 N N l a pl ro fa dr sf sd xp xq i ii q lift 0 (fun z0 z1 z2 z3 z4 z5 z6 z7 z8 z9 z10 z11 _ z13 _ _ => K z0 z1 z2 z3 z4 z5 z6 z7 z8 z9 z10 z11 z13) = K l a pl ro fa dr sf sd xp xq i ii (lift - (fsum (fa.zip sf) i q).1) := by
  have hl := h.nf
  obtain ⟨s, hs', e⟩ := lfor (len := fa.length) (L := fun n j (m : Int) => F27.l14 N n l a pl ro fa dr sf sd xp xq i ii q m (j : Int) (fun z0 z1 z2 z3 z4 z5 z6 z7 z8 z9 z10 z11 _ z13 _ _ => K z0 z1 z2 z3 z4 z5 z6 z7 z8 z9 z10 z11 z13)) (k := fun m => K l a pl ro fa dr sf sd xp xq i ii m)
    (fun j m => m = lift - (fsum ((fa.zip sf).take j) i q).1)
    (fun n m hm => by simp only [F27.l14, res, Int.lt_irrefl, if_false])
    (fun j m hj hm => by
      obtain ⟨x, hx⟩ := getl hj
      obtain ⟨s, hsj⟩ := getl (show j < sf.length by rw [h.lf]; exact hj)
      have b1 := h.fsum sf j i q; have b2 := h.fsum sf (j + 1) i q
      have hf := h.fan x (List.mem_of_getElem? hx)
      have hg := hf.2.2.good hf.1
      have sb := h.f s (List.mem_of_getElem? hsj)
      have bx := sure_bd hg x.2.1 s q
      refine ⟨_, rfl, fun n => ?_⟩
      subst hm
      rw [fsum_take (zip_get hx hsj)] at b2 ⊢
      simp only [F27.l14, res, Int.toNat_natCast, hx, hsj, ge_some, w_succ (show j < 4000000000 by omega), ref07_State hN hg _ _ _ (show -1 ≤ s by omega) sb.2 (show -9223372036854775807 ≤ q by omega) (show q ≤ 9223372036854775807 by omega)]
      rw [if_pos (by omega), if_pos (by omega)]
      by_cases c : x.1 = i
      · rw [if_pos c] at b2
        simp only at b2
        rw [if_pos c, if_pos (by omega), if_pos (by omega), if_pos c, w_id (by omega) (by omega)]
        simp only [Int.sub_sub]
      · rw [if_neg c, if_neg c]) 0 lift N (by simp [fsum, bsum, sumS]) (by omega) (by omega)
  refine e.trans ?_
  rw [hs', List.take_of_length_le (by rw [List.length_zip]; omega)]
include hN in
theorem draw_fit {l : List Int} {a : Int} (hc : Cod l a) (pl : List Pl) {ro : List Ro} {fa : List Fa} {dr : List Do} {sf sd xp xq : List Int} (h : Eqp ro.length fa dr sf sd) (hn : ro.length ≤ 500) (hr : ∀ r ∈ ro, MkRoad xp.length r) (hp : ∀ x ∈ xp, -4000 ≤ x ∧ x ≤ 4000) (hql : xq.length = ro.length) (hq : ∀ x ∈ xq, -1000 ≤ x ∧ x ≤ 1000) :
    ∃ ro' a', Cod l a' ∧ ro'.length = ro.length ∧ (∀ (j : Nat) r r', ro[j]? = some r → ro'[j]? = some r' → FitR (dr.zip sd) (fa.zip sf) xp (xq.getD j 0) j r r') ∧
    ∀ k : List Int → Int → List Pl → List Ro → List Fa → List Do → Option β, F27.C N l a pl ro fa dr sf sd xp xq k = k l a' pl ro' fa dr := by
  obtain ⟨⟨a', ro'⟩, ⟨c', p1, p2, p3⟩, e⟩ := lfor (len := ro.length) (δ := (List Int → Int → List Pl → List Ro → List Fa → List Do → List Int → List Int → List Int → List Int → Int → Bool → Option β) → Option β)
    (L := fun n j (m : Int × List Ro) K => F27.l2 N n l m.1 pl m.2 fa dr sf sd xp xq (j : Int) K) (k := fun m K => K l m.1 pl m.2 fa dr sf sd xp xq (ro.length : Int) false)
    (fun j m => Cod l m.1 ∧ m.2.length = ro.length ∧ (∀ k, j ≤ k → m.2[k]? = ro[k]?) ∧ ∀ (k : Nat) r r', k < j → ro[k]? = some r → m.2[k]? = some r' → FitR (dr.zip sd) (fa.zip sf) xp (xq.getD k 0) k r r')
    (fun n m hm => funext fun K => by simp only [F27.l2, res, hm.2.1, Int.lt_irrefl, if_false, decide_false])
    (fun j m hj hm => by
      obtain ⟨g1, g2, g3, g4⟩ := hm
      obtain ⟨r, hrj⟩ := getl hj
      have hrj' : m.2[j]? = some r := by rw [g3 j (Nat.le_refl _)]; exact hrj
      obtain ⟨q, hqj⟩ := getl (show j < xq.length by omega)
      have hR := hr r (List.mem_of_getElem? hrj)
      obtain ⟨f0, f1⟩ := hR.frm; obtain ⟨t0, t1⟩ := hR.to
      obtain ⟨r0, r1, r2⟩ := hR.rest
      obtain ⟨u, hu⟩ := geti f0 f1
      obtain ⟨v, hv⟩ := geti t0 t1
      have bu := hp u (List.mem_of_getElem? hu); have bv := hp v (List.mem_of_getElem? hv); have bq := hq q (List.mem_of_getElem? hqj)
      obtain ⟨y, a1, c1, y1, e1⟩ := draw_Next (β := β) (N := N) g1 (r.2.2.2.2.2.2.1.2 - r.2.2.2.2.2.2.1.1 + 1)
      have y0 := y1.lo; have y2 := y1.hi (by omega)
      obtain ⟨s, a2, c2, s1, e2⟩ := draw_Next (β := β) (N := N) c1 30
      have s0 := s1.lo; have s2 := s1.hi (by omega)
      obtain ⟨t, a3, c3, t1', e3⟩ := draw_Next (β := β) (N := N) c2 30
      have t0' := t1'.lo; have t2 := t1'.hi (by omega)
      have bd := h.dsum (dr.zip sd).length j
      have bf := h.fsum sf (fa.zip sf).length j q
      rw [List.take_of_length_le (Nat.le_refl _)] at bd bf
      have hm1 : 0 ≤ max q (-q) ∧ max q (-q) ≤ 1000 := by omega
      have hR1 : 0 ≤ r.2.2.2.2.2.2.1.1 + y + (dsum (dr.zip sd) j).1 ∧ r.2.2.2.2.2.2.1.1 + y + (dsum (dr.zip sd) j).1 ≤ 1822 := by omega
      have bm := mul_le hR1.1 hR1.2 hm1.1 hm1.2
      have bm2 : -1822000000 ≤ (r.2.2.2.2.2.2.1.1 + y + (dsum (dr.zip sd) j).1) * max q (-q) * q ∧ (r.2.2.2.2.2.2.1.1 + y + (dsum (dr.zip sd) j).1) * max q (-q) * q ≤ 1822000000 := by
        have a := Int.mul_le_mul_of_nonneg_left bq.1 bm.1
        have b := Int.mul_le_mul_of_nonneg_left bq.2 bm.1
        omega
      refine ⟨(a3, m.2.set j (r.1, (r.2.1, (r.2.2.1, (r.2.2.2.1, (r.2.2.2.2.1, (r.2.2.2.2.2.1, ((r.2.2.2.2.2.2.1.1, r.2.2.2.2.2.2.1.2), (lift0 (dr.zip sd) (fa.zip sf) xp q j r (r.2.2.2.2.2.2.1.1 + y) - s, lift0 (dr.zip sd) (fa.zip sf) xp q j r (r.2.2.2.2.2.2.1.1 + y) + t))))))))),
        ⟨c3, by rw [List.length_set]; exact g2, fun k hk => by rw [List.getElem?_set_ne (by omega)]; exact g3 k (by omega), fun k r1 r1' hk hr1 hr1' => ?_⟩, fun n => funext fun K => ?_⟩
      · by_cases c : k = j
        · subst c
          rw [List.getElem?_set_self (by rw [g2]; exact hj)] at hr1'
          simp only [Option.some.injEq] at hr1'
          subst hr1'
          have : r = r1 := by rw [hrj] at hr1; simpa using hr1
          subst this
          rw [getD_eq hqj]
          exact ⟨rfl, rfl, rfl, rfl, rfl, rfl, _, s, t, by omega, by omega, by omega, by omega, rfl⟩
        · rw [List.getElem?_set_ne (by omega)] at hr1'
          exact g4 k r1 r1' (by omega) hr1 hr1'
      · simp only [F27.l2, res, Int.toNat_natCast, hrj', hqj, ge_some, w_succ (show j < 4000000000 by omega), w_id (x := r.2.2.2.2.2.2.1.2 - r.2.2.2.2.2.2.1.1) (by omega) (by omega), w_id (x := r.2.2.2.2.2.2.1.2 - r.2.2.2.2.2.2.1.1 + 1) (by omega) (by omega), e1, w_id (x := r.2.2.2.2.2.2.1.1 + y) (by omega) (by omega)]
        rw [g2, if_pos (by omega), if_pos (by omega), if_pos (by omega)]
        refine (fit_doors hN h _ _ _ _ _ _ _ _ _ _ (by omega) fun z18 z19 z20 z21 z22 z23 z24 z25 z26 z27 z28 z29 z30 z31 => _).trans ?_
        simp only [hrj', ge_some, hu, hv, f0, t0, if_true]
        rw [Int.zero_sub, w_id (x := -q) (by omega) (by omega), mxI, w_id (x := u - v) (by omega) (by omega), w_id (x := _ * max q (-q)) (by omega) (by omega), w_id (x := _ * q) (by omega) (by omega), w_id (x := _ - (u - v)) (by omega) (by omega)]
        refine (fit_fans hN h _ _ _ _ _ _ _ _ _ _ (by omega) (by omega) fun z42 z43 z44 z45 z46 z47 z48 z49 z50 z51 z52 z53 z55 => _).trans ?_
        simp only [e2, e3, hrj', ge_some]
        have el : lift0 (dr.zip sd) (fa.zip sf) xp q j r (r.2.2.2.2.2.2.1.1 + y) = (r.2.2.2.2.2.2.1.1 + y + (dsum (dr.zip sd) j).1) * max q (-q) * q - (u - v) - (fsum (fa.zip sf) j q).1 := by
          unfold lift0; rw [getD_eq hu, getD_eq hv]
        rw [← el]
        have bl : -2000000000 ≤ lift0 (dr.zip sd) (fa.zip sf) xp q j r (r.2.2.2.2.2.2.1.1 + y) ∧ lift0 (dr.zip sd) (fa.zip sf) xp q j r (r.2.2.2.2.2.2.1.1 + y) ≤ 2000000000 := by rw [el]; omega
        rw [w_id (x := _ - s) (by omega) (by omega), w_id (x := _ + t) (by omega) (by omega), w_succ (show j < 4000000000 by omega)]) 0 (a, ro) N ⟨hc, rfl, fun _ _ => rfl, fun k _ _ hk => by omega⟩ (by omega) (by omega)
  refine ⟨ro', a', c', p1, fun j r r' hj hj' => p3 j r r' (idx hj) hj hj', fun k => ?_⟩
  rw [F27.C_eq]; unfold F27.K
  exact congrFun e _
end Go.Vi.B
/- (*minecontrol/minecontroldraw.Codes).Made -/
namespace Go.Vi.B
open Go.Proofs
set_option linter.unusedVariables false
set_option maxRecDepth 100000
abbrev F9.i : Sh := [(0, .one (.addr 0 0)), (1, .slot false [.lst .pin 5 (.int .u8), .i])]
abbrev F9.o0 : Sh := [(0, .tup [(true, [.view 0 0, .view 0 1, .view 0 2, .view 0 3]), (true, [.view 0 4, .view 0 5]), (true, [.lst .frz 3 .i, .lst .frz 3 .i])]), (1, .slot true [.lst .own 62 kd1, .lst .own 71 kd8, .lst .own 100 kd11, .lst .own 55 kd13, .lst .own 3 .i, .lst .own 3 .i, .undef, .undef]), (2, .one (.addr 1 0)), (3, .slot false [.lst .pin 5 (.int .u8), .i])]
noncomputable def F9.l6 {β : Type} (N : Nat) : Nat → (List Int) → Int → (List Pl) → (List Ro) → (List Fa) → (List Do) → (List Int) → (List Int) → (List Int) → (List Int) → (List Pl) → (List Ro) → (List Fa) → (List Do) → Int → Int → (List Int → Int → List Pl → List Ro → List Fa → List Do → List Int → List Int → List Int → List Int → List Pl → List Ro → List Fa → List Do → Int → Int → Bool → Option β) → Option β
 | 0, _, _, _, _, _, _, _, _, _, _, _, _, _, _, _, _, _ => none
 | n + 1, v0, v1, v2, v3, v4, v5, v6, v7, v8, v9, v10, v11, v12, v13, v14, v15, k0 =>
  bl (v15 > 0) (k0 v0 v1 v2 v3 v4 v5 v6 v7 v8 v9 v10 v11 v12 v13 v14 v15 (decide (v15 > 0))) <|
  F23.C N v0 v1 100 fun r1 r2 r3 =>
  ck (v10.length + 1 ≤ 1000000000) <|
  F9.l6 N n r2 r3 v2 v3 v4 v5 v6 v7 v8 v9 (v10 ++ [((w (0 - r1)), false)]) v11 v12 v13 v14 (w (v15 - 1)) k0
noncomputable def F9.l12 {β : Type} (N : Nat) : Nat → (List Int) → Int → (List Pl) → (List Ro) → (List Fa) → (List Do) → (List Int) → (List Int) → (List Int) → (List Int) → (List Pl) → (List Ro) → (List Fa) → (List Do) → Int → Int → (List Int) → (List Int) → Int → (List Int → Int → List Pl → List Ro → List Fa → List Do → List Int → List Int → List Int → List Int → List Pl → List Ro → List Fa → List Do → Int → Int → List Int → List Int → Int → Bool → Option β) → Option β
 | 0, _, _, _, _, _, _, _, _, _, _, _, _, _, _, _, _, _, _, _, _ => none
 | n + 1, v0, v1, v2, v3, v4, v5, v6, v7, v8, v9, v10, v11, v12, v13, v14, v15, v16, v17, v18, k0 =>
  bl (v18 < v15) (k0 v0 v1 v2 v3 v4 v5 v6 v7 v8 v9 v10 v11 v12 v13 v14 v15 v16 v17 v18 (decide (v18 < v15))) <|
  F24.C N v0 v1 (-4000) 4000 fun r1 r2 r3 =>
  ck (0 ≤ v18) <|
  ge (v16[v18.toNat]?) fun _ =>
  ge (v16[v18.toNat]?) fun _ =>
  F9.l12 N n r2 r3 v2 v3 v4 v5 v6 v7 v8 v9 v10 v11 v12 v13 v14 v15 (v16.set v18.toNat r1) v17 (w (v18 + 1)) k0
noncomputable def F9.l18 {β : Type} (N : Nat) : Nat → (List Int) → Int → (List Pl) → (List Ro) → (List Fa) → (List Do) → (List Int) → (List Int) → (List Int) → (List Int) → (List Pl) → (List Ro) → (List Fa) → (List Do) → Int → Int → (List Int) → (List Int) → (List Int) → Int → (List Int → Int → List Pl → List Ro → List Fa → List Do → List Int → List Int → List Int → List Int → List Pl → List Ro → List Fa → List Do → Int → Int → List Int → List Int → List Int → Int → Bool → Option β) → Option β
 | 0, _, _, _, _, _, _, _, _, _, _, _, _, _, _, _, _, _, _, _, _, _ => none
 | n + 1, v0, v1, v2, v3, v4, v5, v6, v7, v8, v9, v10, v11, v12, v13, v14, v15, v16, v17, v18, v19, k0 =>
  bl (v19 > 0) (k0 v0 v1 v2 v3 v4 v5 v6 v7 v8 v9 v10 v11 v12 v13 v14 v15 v16 v17 v18 v19 (decide (v19 > 0))) <|
  F23.C N v0 v1 v15 fun r1 r2 r3 =>
  F23.C N r2 r3 (w (v15 - 1)) fun r4 r5 r6 =>
  cn (v15 = 0) <|
  F25.C N r5 r6 r1 (Int.tmod (w ((w (r1 + 1)) + r4)) v15) fun r7 r8 r9 r10 r11 _ r13 r14 r15 r16 r17 r18 =>
  F22.C N r17 r18 7 fun r19 r20 r21 =>
  F24.C N r20 r21 (-60) 60 fun r22 r23 r24 =>
  br r19 (
   ck (v11.length + 1 ≤ 1000000000) <|
   ck (v17.length + 1 ≤ 1000000000) <|
   ck (0 ≤ r7) <|
   ge (v18[r7.toNat]?) fun _ =>
   ge (v18[r7.toNat]?) fun x26 =>
   ck (0 ≤ r7) <|
   ge (v18[r7.toNat]?) fun _ =>
   ge (v18[r7.toNat]?) fun _ =>
   ck (0 ≤ r8) <|
   ge ((v18.set r7.toNat (w (x26 + 0)))[r8.toNat]?) fun _ =>
   ge ((v18.set r7.toNat (w (x26 + 0)))[r8.toNat]?) fun x30 =>
   ck (0 ≤ r8) <|
   ge ((v18.set r7.toNat (w (x26 + 0)))[r8.toNat]?) fun _ =>
   ge ((v18.set r7.toNat (w (x26 + 0)))[r8.toNat]?) fun _ =>
   F9.l18 N n r23 r24 v2 v3 v4 v5 v6 v7 v8 v9 v10 (v11 ++ [(r7, (r8, (r9, (r10, (r11, (r19, ((r13, r14), (r15, r16))))))))]) v12 v13 v14 v15 v16 (v17 ++ [0]) ((v18.set r7.toNat (w (x26 + 0))).set r8.toNat (w (x30 - 0))) (w (v19 - 1)) k0) <|
  ck (v11.length + 1 ≤ 1000000000) <|
  ck (v17.length + 1 ≤ 1000000000) <|
  ck (0 ≤ r7) <|
  ge (v18[r7.toNat]?) fun _ =>
  ge (v18[r7.toNat]?) fun x34 =>
  ck (0 ≤ r7) <|
  ge (v18[r7.toNat]?) fun _ =>
  ge (v18[r7.toNat]?) fun _ =>
  ck (0 ≤ r8) <|
  ge ((v18.set r7.toNat (w (x34 + r22)))[r8.toNat]?) fun _ =>
  ge ((v18.set r7.toNat (w (x34 + r22)))[r8.toNat]?) fun x38 =>
  ck (0 ≤ r8) <|
  ge ((v18.set r7.toNat (w (x34 + r22)))[r8.toNat]?) fun _ =>
  ge ((v18.set r7.toNat (w (x34 + r22)))[r8.toNat]?) fun _ =>
  F9.l18 N n r23 r24 v2 v3 v4 v5 v6 v7 v8 v9 v10 (v11 ++ [(r7, (r8, (r9, (r10, (r11, (r19, ((r13, r14), (r15, r16))))))))]) v12 v13 v14 v15 v16 (v17 ++ [r22]) ((v18.set r7.toNat (w (x34 + r22))).set r8.toNat (w (x38 - r22))) (w (v19 - 1)) k0
noncomputable def F9.l30 {β : Type} (N : Nat) : Nat → (List Int) → Int → (List Pl) → (List Ro) → (List Fa) → (List Do) → (List Int) → (List Int) → (List Int) → (List Int) → (List Pl) → (List Ro) → (List Fa) → (List Do) → Int → Int → (List Int) → (List Int) → (List Int) → Int → (List Int → Int → List Pl → List Ro → List Fa → List Do → List Int → List Int → List Int → List Int → List Pl → List Ro → List Fa → List Do → Int → Int → List Int → List Int → List Int → Int → Bool → Option β) → Option β
 | 0, _, _, _, _, _, _, _, _, _, _, _, _, _, _, _, _, _, _, _, _, _ => none
 | n + 1, v0, v1, v2, v3, v4, v5, v6, v7, v8, v9, v10, v11, v12, v13, v14, v15, v16, v17, v18, v19, k0 =>
  bl (v19 < v15) (k0 v0 v1 v2 v3 v4 v5 v6 v7 v8 v9 v10 v11 v12 v13 v14 v15 v16 v17 v18 v19 (decide (v19 < v15))) <|
  F23.C N v0 v1 v14 fun r1 r2 r3 =>
  F25.C N r2 r3 v19 r1 fun r4 r5 r6 r7 r8 r9 r10 r11 r12 r13 r14 r15 =>
  ck (0 ≤ v19) <|
  ge (v18[v19.toNat]?) fun _ =>
  ge (v18[v19.toNat]?) fun x17 =>
  F22.C N r14 r15 2 fun r18 r19 r20 =>
  bl r18 (
   ck (v11.length + 1 ≤ 1000000000) <|
   ck (v17.length + 1 ≤ 1000000000) <|
   F9.l30 N n r19 r20 v2 v3 v4 v5 v6 v7 v8 v9 v10 (v11 ++ [(r4, (r5, (r6, (r7, (r8, (r9, ((r10, r11), (r12, r13))))))))]) v12 v13 v14 v15 v16 (v17 ++ [(w (0 - x17))]) v18 (w (v19 + 1)) k0) <|
  ck (v11.length + 1 ≤ 1000000000) <|
  ck (v17.length + 1 ≤ 1000000000) <|
  F9.l30 N n r19 r20 v2 v3 v4 v5 v6 v7 v8 v9 v10 (v11 ++ [(r5, (r4, (r6, (r7, (r8, (r9, ((r10, r11), (r12, r13))))))))]) v12 v13 v14 v15 v16 (v17 ++ [(w (0 - (w (0 - x17))))]) v18 (w (v19 + 1)) k0
noncomputable def F9.K {β : Type} (N : Nat) (a0 : List Int) (a1 : Int) (k0 : List Int → List Int → List Pl → List Ro → List Fa → List Do → List Int → List Int → List Int → Int → Option β) : Option β :=
 F22.C N a0 a1 3 fun r1 r2 r3 =>
 br r1 (
  F23.C N r2 r3 5 fun r4 r5 r6 =>
  F9.l6 N N r5 r6 [] [] [] [] [] [] [] [] ([(0, true)] ++ [(10, true)]) [] [] [] (([(0, true)] ++ [(10, true)]).length : Int) r4 fun z7 z8 z9 z10 z11 z12 z13 z14 z15 z16 z17 z18 z19 z20 z21 _ _ =>
  ck ((z17.length : Int) = (z17.length : Int)) <|
  ck (0 ≤ (z17.length : Int)) <|
  ck ((z17.length : Int) ≤ 1000000000) <|
  F9.l12 N N z7 z8 z9 z10 z11 z12 z13 z14 z15 z16 z17 z18 z19 z20 z21 (z17.length : Int) (List.replicate (Int.toNat (z17.length : Int)) (0 : Int)) [] z21 fun z24 z25 z26 z27 z28 z29 z30 z31 z32 z33 z34 z35 z36 z37 z38 z39 z40 z41 _ _ =>
  ck (z39 = z39) <|
  ck (0 ≤ z39) <|
  ck (z39 ≤ 1000000000) <|
  bl (z39 > 1) (
   F9.l30 N N z24 z25 z26 z27 z28 z29 z30 z31 z32 z33 z34 z35 z36 z37 z38 z39 z40 z41 (List.replicate (Int.toNat z39) (0 : Int)) z38 fun z107 z108 _ _ _ _ _ _ _ _ z117 z118 z119 z120 _ _ z123 z124 _ _ _ =>
   F26.C N z107 z108 z117 z118 z119 z120 fun r128 r129 r130 r131 r132 r133 r134 r135 =>
   F27.C N r130 r131 r132 r133 r134 r135 r128 r129 z123 z124 fun r136 r137 r138 r139 r140 r141 =>
   F28.C N r136 r137 r138 r139 r140 r141 r128 r129 fun r142 r143 r144 r145 =>
   k0 z123 z124 r138 r139 r140 r141 r142 r143 r144 r145) <|
  F23.C N z24 z25 6 fun r44 r45 r46 =>
  F9.l18 N N r45 r46 z26 z27 z28 z29 z30 z31 z32 z33 z34 z35 z36 z37 z38 z39 z40 z41 (List.replicate (Int.toNat z39) (0 : Int)) r44 fun z47 z48 z49 z50 z51 z52 z53 z54 z55 z56 z57 z58 z59 z60 z61 z62 z63 z64 z65 _ _ =>
  F9.l30 N N z47 z48 z49 z50 z51 z52 z53 z54 z55 z56 z57 z58 z59 z60 z61 z62 z63 z64 z65 z61 fun z68 z69 _ _ _ _ _ _ _ _ z78 z79 z80 z81 _ _ z84 z85 _ _ _ =>
  F26.C N z68 z69 z78 z79 z80 z81 fun r89 r90 r91 r92 r93 r94 r95 r96 =>
  F27.C N r91 r92 r93 r94 r95 r96 r89 r90 z84 z85 fun r97 r98 r99 r100 r101 r102 =>
  F28.C N r97 r98 r99 r100 r101 r102 r89 r90 fun r103 r104 r105 r106 =>
  k0 z84 z85 r99 r100 r101 r102 r103 r104 r105 r106) <|
 F23.C N r2 r3 5 fun r146 r147 r148 =>
 F9.l6 N N r147 r148 [] [] [] [] [] [] [] [] [(0, true)] [] [] [] ([(0, true)].length : Int) r146 fun z149 z150 z151 z152 z153 z154 z155 z156 z157 z158 z159 z160 z161 z162 z163 _ _ =>
 ck ((z159.length : Int) = (z159.length : Int)) <|
 ck (0 ≤ (z159.length : Int)) <|
 ck ((z159.length : Int) ≤ 1000000000) <|
 F9.l12 N N z149 z150 z151 z152 z153 z154 z155 z156 z157 z158 z159 z160 z161 z162 z163 (z159.length : Int) (List.replicate (Int.toNat (z159.length : Int)) (0 : Int)) [] z163 fun z166 z167 z168 z169 z170 z171 z172 z173 z174 z175 z176 z177 z178 z179 z180 z181 z182 z183 _ _ =>
 ck (z181 = z181) <|
 ck (0 ≤ z181) <|
 ck (z181 ≤ 1000000000) <|
 bl (z181 > 1) (
  F9.l30 N N z166 z167 z168 z169 z170 z171 z172 z173 z174 z175 z176 z177 z178 z179 z180 z181 z182 z183 (List.replicate (Int.toNat z181) (0 : Int)) z180 fun z249 z250 _ _ _ _ _ _ _ _ z259 z260 z261 z262 _ _ z265 z266 _ _ _ =>
  F26.C N z249 z250 z259 z260 z261 z262 fun r270 r271 r272 r273 r274 r275 r276 r277 =>
  F27.C N r272 r273 r274 r275 r276 r277 r270 r271 z265 z266 fun r278 r279 r280 r281 r282 r283 =>
  F28.C N r278 r279 r280 r281 r282 r283 r270 r271 fun r284 r285 r286 r287 =>
  k0 z265 z266 r280 r281 r282 r283 r284 r285 r286 r287) <|
 F23.C N z166 z167 6 fun r186 r187 r188 =>
 F9.l18 N N r187 r188 z168 z169 z170 z171 z172 z173 z174 z175 z176 z177 z178 z179 z180 z181 z182 z183 (List.replicate (Int.toNat z181) (0 : Int)) r186 fun z189 z190 z191 z192 z193 z194 z195 z196 z197 z198 z199 z200 z201 z202 z203 z204 z205 z206 z207 _ _ =>
 F9.l30 N N z189 z190 z191 z192 z193 z194 z195 z196 z197 z198 z199 z200 z201 z202 z203 z204 z205 z206 z207 z203 fun z210 z211 _ _ _ _ _ _ _ _ z220 z221 z222 z223 _ _ z226 z227 _ _ _ =>
 F26.C N z210 z211 z220 z221 z222 z223 fun r231 r232 r233 r234 r235 r236 r237 r238 =>
 F27.C N r233 r234 r235 r236 r237 r238 r231 r232 z226 z227 fun r239 r240 r241 r242 r243 r244 =>
 F28.C N r239 r240 r241 r242 r243 r244 r231 r232 fun r245 r246 r247 r248 =>
 k0 z226 z227 r241 r242 r243 r244 r245 r246 r247 r248
noncomputable def F9.fx : Fx := ⟨Try.prog, [2, 3, 4], [1000027], [(0,[0,2,3,4]),(1,[0,2,3,4,5]),(2,[0,2,3,4,5,25]),(3,[0,2,3,4,5]),(4,[0,2,3,4,5,6]),(5,[0,2,3,4,5,6,7]),(6,[0,2,3,4,5,6,7,41]),(7,[0,2,3,4,5,6,7]),(8,[0,2,3,4,5,6,7]),(9,[0,2,3,4,5,6,8]),(10,[0,2,3,4,5,6,8,9]),(11,[0,2,3,4,5,6,8,9,10]),(12,[0,2,3,4,5,6,8,9,10,65]),(13,[0,2,3,4,5,6,8,9,10]),(14,[0,2,3,4,5,6,8,9,10]),(15,[0,2,3,4,5,6,8,9,11]),(16,[0,2,3,4,5,6,8,9,11,77]),(17,[0,2,3,4,5,6,8,9,11,12]),(18,[0,2,3,4,5,6,8,9,11,12,81]),(19,[0,2,3,4,5,6,8,9,11,12]),(20,[0,2,3,4,5,6,8,9,11,12,13]),(21,[0,2,3,4,5,6,8,9,11,12,14]),(22,[0,2,3,4,5,6,8,9,11,12,14]),(23,[0,2,3,4,5,6,8,9,11,12,14,15]),(24,[0,2,3,4,5,6,8,9,11,12,14,15,105]),(25,[0,2,3,4,5,6,8,9,11,12,14,15]),(26,[0,2,3,4,5,6,8,9,11,12,14,15]),(27,[0,2,3,4,5,6,8,9,11,12,14,15]),(28,[0,2,3,4,5,6,8,9,11,12]),(29,[0,2,3,4,5,6,8,9,11,16]),(30,[0,2,3,4,5,6,8,9,11,16,139]),(31,[0,2,3,4,5,6,8,9,11,16]),(32,[0,2,3,4,5,6,8,9,11,16,17,18]),(33,[0,2,3,4,5,6,8,9,11,16,17,18,154]),(34,[0,2,3,4,5,6,8,9,11,16,17,18]),(35,[0,2,3,4,5,6,8,9,11,16]),(36,[0,2,3,4,5,9,19]),(37,[0,2,3,4,5,9,19]),(38,[0,2,3,4])], 189, [0]⟩
noncomputable def F9.cs (N : Nat) : List (Ctr Try.prog) := [F22.X N, F23.X N, F24.X N, F25.X N, F26.X N, F27.X N, F28.X N]
abbrev F9.s6 : Sh := [(0, .one (.addr 0 0)), (1, .slot false [.lst .pin 5 (.int .u8), .i]), (4, .one (.addr 2 0)), (5, .slot false [.lst .own 62 kd1, .lst .own 71 kd8, .lst .own 100 kd11, .lst .own 55 kd13]), (6, .one (.addr 3 0)), (7, .slot false [.lst .own 3 .i, .lst .own 3 .i]), (8, .one (.addr 4 0)), (9, .slot false [.lst .own 3 .i, .lst .own 3 .i]), (10, .one (.addr 5 0)), (11, .slot false [.lst .own 62 kd1, .lst .own 71 kd8, .lst .own 100 kd11, .lst .own 55 kd13]), (12, .one .i), (14, .one .i)]
abbrev F9.e6_0 : Sh := [(0, .one (.addr 0 0)), (1, .slot false [.lst .pin 5 (.int .u8), .i]), (4, .one (.addr 2 0)), (5, .slot false [.lst .own 62 kd1, .lst .own 71 kd8, .lst .own 100 kd11, .lst .own 55 kd13]), (6, .one (.addr 3 0)), (7, .slot false [.lst .own 3 .i, .lst .own 3 .i]), (8, .one (.addr 4 0)), (9, .slot false [.lst .own 3 .i, .lst .own 3 .i]), (10, .one (.addr 5 0)), (11, .slot false [.lst .own 62 kd1, .lst .own 71 kd8, .lst .own 100 kd11, .lst .own 55 kd13]), (12, .one .i), (14, .one .i), (82, .one .bool)]
noncomputable def F9.X6 (N : Nat) : LpC Try.prog F9.fx := mkL (F9.cs N) [] ((loopsOf (bodyOf Try.f9)).getD 0 .skip) 6 [0,2,3,4,5,6,7] (by kernel_rfl) (by kernel_rfl) (by kernel_rfl) F9.s6 (fun n x k => F9.l6 N n x.1 x.2.1 x.2.2.1 x.2.2.2.1 x.2.2.2.2.1 x.2.2.2.2.2.1 x.2.2.2.2.2.2.1 x.2.2.2.2.2.2.2.1 x.2.2.2.2.2.2.2.2.1 x.2.2.2.2.2.2.2.2.2.1 x.2.2.2.2.2.2.2.2.2.2.1 x.2.2.2.2.2.2.2.2.2.2.2.1 x.2.2.2.2.2.2.2.2.2.2.2.2.1 x.2.2.2.2.2.2.2.2.2.2.2.2.2.1 x.2.2.2.2.2.2.2.2.2.2.2.2.2.2.1 x.2.2.2.2.2.2.2.2.2.2.2.2.2.2.2.1 (fun r0 r1 r2 r3 r4 r5 r6 r7 r8 r9 r10 r11 r12 r13 r14 r15 r16 => k (.exit 0) (Sh.mk F9.e6_0 (r0, r1, r2, r3, r4, r5, r6, r7, r8, r9, r10, r11, r12, r13, r14, r15, r16, ())))) (fun _ _ => rfl) (fun _ _ _ => by kernel_rfl) N
abbrev F9.s12 : Sh := [(0, .one (.addr 0 0)), (1, .slot false [.lst .pin 5 (.int .u8), .i]), (4, .one (.addr 2 0)), (5, .slot false [.lst .own 62 kd1, .lst .own 71 kd8, .lst .own 100 kd11, .lst .own 55 kd13]), (6, .one (.addr 3 0)), (7, .slot false [.lst .own 3 .i, .lst .own 3 .i]), (8, .one (.addr 4 0)), (9, .slot false [.lst .own 3 .i, .lst .own 3 .i]), (10, .one (.addr 5 0)), (11, .slot false [.lst .own 62 kd1, .lst .own 71 kd8, .lst .own 100 kd11, .lst .own 55 kd13]), (12, .one .i), (16, .one .i), (18, .one (.addr 9 0)), (19, .slot false [.lst .own 3 .i, .lst .own 3 .i]), (20, .one .i)]
abbrev F9.e12_0 : Sh := [(0, .one (.addr 0 0)), (1, .slot false [.lst .pin 5 (.int .u8), .i]), (4, .one (.addr 2 0)), (5, .slot false [.lst .own 62 kd1, .lst .own 71 kd8, .lst .own 100 kd11, .lst .own 55 kd13]), (6, .one (.addr 3 0)), (7, .slot false [.lst .own 3 .i, .lst .own 3 .i]), (8, .one (.addr 4 0)), (9, .slot false [.lst .own 3 .i, .lst .own 3 .i]), (10, .one (.addr 5 0)), (11, .slot false [.lst .own 62 kd1, .lst .own 71 kd8, .lst .own 100 kd11, .lst .own 55 kd13]), (12, .one .i), (16, .one .i), (18, .one (.addr 9 0)), (19, .slot false [.lst .own 3 .i, .lst .own 3 .i]), (20, .one .i), (130, .one .bool)]
noncomputable def F9.X12 (N : Nat) : LpC Try.prog F9.fx := mkL (F9.cs N) [] ((loopsOf (bodyOf Try.f9)).getD 1 .skip) 12 [0,2,3,4,5,6,8,9,10] (by kernel_rfl) (by kernel_rfl) (by kernel_rfl) F9.s12 (fun n x k => F9.l12 N n x.1 x.2.1 x.2.2.1 x.2.2.2.1 x.2.2.2.2.1 x.2.2.2.2.2.1 x.2.2.2.2.2.2.1 x.2.2.2.2.2.2.2.1 x.2.2.2.2.2.2.2.2.1 x.2.2.2.2.2.2.2.2.2.1 x.2.2.2.2.2.2.2.2.2.2.1 x.2.2.2.2.2.2.2.2.2.2.2.1 x.2.2.2.2.2.2.2.2.2.2.2.2.1 x.2.2.2.2.2.2.2.2.2.2.2.2.2.1 x.2.2.2.2.2.2.2.2.2.2.2.2.2.2.1 x.2.2.2.2.2.2.2.2.2.2.2.2.2.2.2.1 x.2.2.2.2.2.2.2.2.2.2.2.2.2.2.2.2.1 x.2.2.2.2.2.2.2.2.2.2.2.2.2.2.2.2.2.1 x.2.2.2.2.2.2.2.2.2.2.2.2.2.2.2.2.2.2.1 (fun r0 r1 r2 r3 r4 r5 r6 r7 r8 r9 r10 r11 r12 r13 r14 r15 r16 r17 r18 r19 => k (.exit 2) (Sh.mk F9.e12_0 (r0, r1, r2, r3, r4, r5, r6, r7, r8, r9, r10, r11, r12, r13, r14, r15, r16, r17, r18, r19, ())))) (fun _ _ => rfl) (fun _ _ _ => by kernel_rfl) N
abbrev F9.s18 : Sh := [(0, .one (.addr 0 0)), (1, .slot false [.lst .pin 5 (.int .u8), .i]), (4, .one (.addr 2 0)), (5, .slot false [.lst .own 62 kd1, .lst .own 71 kd8, .lst .own 100 kd11, .lst .own 55 kd13]), (6, .one (.addr 3 0)), (7, .slot false [.lst .own 3 .i, .lst .own 3 .i]), (8, .one (.addr 4 0)), (9, .slot false [.lst .own 3 .i, .lst .own 3 .i]), (10, .one (.addr 5 0)), (11, .slot false [.lst .own 62 kd1, .lst .own 71 kd8, .lst .own 100 kd11, .lst .own 55 kd13]), (12, .one .i), (16, .one .i), (18, .one (.addr 9 0)), (19, .slot false [.lst .own 3 .i, .lst .own 3 .i]), (22, .one (.view 11 0)), (23, .slot true [.lst .own 3 .i]), (24, .one .i)]
abbrev F9.e18_0 : Sh := [(0, .one (.addr 0 0)), (1, .slot false [.lst .pin 5 (.int .u8), .i]), (4, .one (.addr 2 0)), (5, .slot false [.lst .own 62 kd1, .lst .own 71 kd8, .lst .own 100 kd11, .lst .own 55 kd13]), (6, .one (.addr 3 0)), (7, .slot false [.lst .own 3 .i, .lst .own 3 .i]), (8, .one (.addr 4 0)), (9, .slot false [.lst .own 3 .i, .lst .own 3 .i]), (10, .one (.addr 5 0)), (11, .slot false [.lst .own 62 kd1, .lst .own 71 kd8, .lst .own 100 kd11, .lst .own 55 kd13]), (12, .one .i), (16, .one .i), (18, .one (.addr 9 0)), (19, .slot false [.lst .own 3 .i, .lst .own 3 .i]), (22, .one (.view 11 0)), (23, .slot true [.lst .own 3 .i]), (24, .one .i), (162, .one .bool)]
noncomputable def F9.X18 (N : Nat) : LpC Try.prog F9.fx := mkL (F9.cs N) [] ((loopsOf (bodyOf Try.f9)).getD 2 .skip) 18 [0,2,3,4,5,6,8,9,11,12] (by kernel_rfl) (by kernel_rfl) (by kernel_rfl) F9.s18 (fun n x k => F9.l18 N n x.1 x.2.1 x.2.2.1 x.2.2.2.1 x.2.2.2.2.1 x.2.2.2.2.2.1 x.2.2.2.2.2.2.1 x.2.2.2.2.2.2.2.1 x.2.2.2.2.2.2.2.2.1 x.2.2.2.2.2.2.2.2.2.1 x.2.2.2.2.2.2.2.2.2.2.1 x.2.2.2.2.2.2.2.2.2.2.2.1 x.2.2.2.2.2.2.2.2.2.2.2.2.1 x.2.2.2.2.2.2.2.2.2.2.2.2.2.1 x.2.2.2.2.2.2.2.2.2.2.2.2.2.2.1 x.2.2.2.2.2.2.2.2.2.2.2.2.2.2.2.1 x.2.2.2.2.2.2.2.2.2.2.2.2.2.2.2.2.1 x.2.2.2.2.2.2.2.2.2.2.2.2.2.2.2.2.2.1 x.2.2.2.2.2.2.2.2.2.2.2.2.2.2.2.2.2.2.1 x.2.2.2.2.2.2.2.2.2.2.2.2.2.2.2.2.2.2.2.1 (fun r0 r1 r2 r3 r4 r5 r6 r7 r8 r9 r10 r11 r12 r13 r14 r15 r16 r17 r18 r19 r20 => k (.exit 4) (Sh.mk F9.e18_0 (r0, r1, r2, r3, r4, r5, r6, r7, r8, r9, r10, r11, r12, r13, r14, r15, r16, r17, r18, r19, r20, ())))) (fun _ _ => rfl) (fun _ _ _ => by kernel_rfl) N
abbrev F9.s30 : Sh := [(0, .one (.addr 0 0)), (1, .slot false [.lst .pin 5 (.int .u8), .i]), (4, .one (.addr 2 0)), (5, .slot false [.lst .own 62 kd1, .lst .own 71 kd8, .lst .own 100 kd11, .lst .own 55 kd13]), (6, .one (.addr 3 0)), (7, .slot false [.lst .own 3 .i, .lst .own 3 .i]), (8, .one (.addr 4 0)), (9, .slot false [.lst .own 3 .i, .lst .own 3 .i]), (10, .one (.addr 5 0)), (11, .slot false [.lst .own 62 kd1, .lst .own 71 kd8, .lst .own 100 kd11, .lst .own 55 kd13]), (12, .one .i), (16, .one .i), (18, .one (.addr 9 0)), (19, .slot false [.lst .own 3 .i, .lst .own 3 .i]), (22, .one (.view 11 0)), (23, .slot true [.lst .own 3 .i]), (32, .one .i)]
abbrev F9.e30_0 : Sh := [(0, .one (.addr 0 0)), (1, .slot false [.lst .pin 5 (.int .u8), .i]), (4, .one (.addr 2 0)), (5, .slot false [.lst .own 62 kd1, .lst .own 71 kd8, .lst .own 100 kd11, .lst .own 55 kd13]), (6, .one (.addr 3 0)), (7, .slot false [.lst .own 3 .i, .lst .own 3 .i]), (8, .one (.addr 4 0)), (9, .slot false [.lst .own 3 .i, .lst .own 3 .i]), (10, .one (.addr 5 0)), (11, .slot false [.lst .own 62 kd1, .lst .own 71 kd8, .lst .own 100 kd11, .lst .own 55 kd13]), (12, .one .i), (16, .one .i), (18, .one (.addr 9 0)), (19, .slot false [.lst .own 3 .i, .lst .own 3 .i]), (22, .one (.view 11 0)), (23, .slot true [.lst .own 3 .i]), (32, .one .i), (278, .one .bool)]
noncomputable def F9.X30 (N : Nat) : LpC Try.prog F9.fx := mkL (F9.cs N) [] ((loopsOf (bodyOf Try.f9)).getD 3 .skip) 30 [0,2,3,4,5,6,8,9,11,16] (by kernel_rfl) (by kernel_rfl) (by kernel_rfl) F9.s30 (fun n x k => F9.l30 N n x.1 x.2.1 x.2.2.1 x.2.2.2.1 x.2.2.2.2.1 x.2.2.2.2.2.1 x.2.2.2.2.2.2.1 x.2.2.2.2.2.2.2.1 x.2.2.2.2.2.2.2.2.1 x.2.2.2.2.2.2.2.2.2.1 x.2.2.2.2.2.2.2.2.2.2.1 x.2.2.2.2.2.2.2.2.2.2.2.1 x.2.2.2.2.2.2.2.2.2.2.2.2.1 x.2.2.2.2.2.2.2.2.2.2.2.2.2.1 x.2.2.2.2.2.2.2.2.2.2.2.2.2.2.1 x.2.2.2.2.2.2.2.2.2.2.2.2.2.2.2.1 x.2.2.2.2.2.2.2.2.2.2.2.2.2.2.2.2.1 x.2.2.2.2.2.2.2.2.2.2.2.2.2.2.2.2.2.1 x.2.2.2.2.2.2.2.2.2.2.2.2.2.2.2.2.2.2.1 x.2.2.2.2.2.2.2.2.2.2.2.2.2.2.2.2.2.2.2.1 (fun r0 r1 r2 r3 r4 r5 r6 r7 r8 r9 r10 r11 r12 r13 r14 r15 r16 r17 r18 r19 r20 => k (.exit 6) (Sh.mk F9.e30_0 (r0, r1, r2, r3, r4, r5, r6, r7, r8, r9, r10, r11, r12, r13, r14, r15, r16, r17, r18, r19, r20, ())))) (fun _ _ => rfl) (fun _ _ _ => by kernel_rfl) N
noncomputable def F9.C {β : Type} (N : Nat) := (Sealed fun β => @F9.K β).1 β N
theorem F9.C_eq {β : Type} (N : Nat) : @F9.C β N = @F9.K β N := congrFun (congrFun (Sealed fun β => @F9.K β).2 β) N
noncomputable def F9.X (N : Nat) : Ctr Try.prog := mkF 9 Try.f9 F9.fx (F9.cs N) [F9.X6 N, F9.X12 N, F9.X18 N, F9.X30 N] F9.i (fun x k => F9.C N x.1 x.2.1 (fun r0 r1 r2 r3 r4 r5 r6 r7 r8 r9 => k (Sh.mk F9.o0 (r0, r1, r2, r3, r4, r5, r6, r7, r8, r9, ())))) (by intros; rw [F9.C_eq]; kernel_rfl) (by kernel_rfl) (by kernel_rfl) (by kernel_rfl) (by kernel_rfl) rfl (by kernel_rfl) rfl (by kernel_rfl) (by kernel_rfl) (by kernel_rfl) (.dead _ 9) rfl
end Go.Vi.B
/- Airs with a setting and a state that are made: they are right, and the state fits. -/
namespace Go.Vi.A
/-- What is made. -/
structure MadeOk (pl : List Pl) (ro : List Ro) (fa : List Fa) (dr : List Do) (sf sd xp xq : List Int) : Prop where
  air : airE pl ro fa dr = 0
  fit : fitE fa dr sf sd = 0
  st : stE pl ro (dr.zip sd) (fa.zip sf) xp xq = 0
  npl1 : 1 ≤ pl.length
  npl : pl.length ≤ 6
  nro : ro.length ≤ 10
  nfa : fa.length ≤ 2
  ndr : dr.length ≤ 2
  rest : ∀ d ∈ dr, 2 ≤ d.2.2.length ∧ d.2.2.length ≤ 4
  xpb : ∀ x ∈ xp, -4000 ≤ x ∧ x ≤ 4000
  pts : ∀ f ∈ fa, Pts f.2.2.2
  other : ∀ d ∈ dr, d.2.1 = -1
  lift : ∀ r ∈ ro, -2000000000 ≤ r.2.2.2.2.2.2.2.1 ∧ r.2.2.2.2.2.2.2.1 ≤ r.2.2.2.2.2.2.2.2 ∧ r.2.2.2.2.2.2.2.2 ≤ 2000000000
theorem MadeOk.fits {pl : List Pl} {ro : List Ro} {fa : List Fa} {dr : List Do} {sf sd xp xq : List Int} (h : MadeOk pl ro fa dr sf sd xp xq) : fitsE pl ro fa dr sf sd xp xq = 0 := by
  unfold fitsE; rw [thn_zero, if_pos h.fit]; exact ⟨h.air, h.st⟩
theorem dbt_dsum {dr : List Do} {s s' : List Int} (h : Dbt s s') (hr : ∀ (j : Nat) d x, dr[j]? = some d → s[j]? = some x → 0 ≤ x ∧ x < (d.2.2.length : Int)) (i : Int) : ∀ j, j ≤ dr.length → j ≤ s.length → (dsum ((dr.zip s').take j) i).1 ≤ (dsum ((dr.zip s).take j) i).1 ∧ (dsum ((dr.zip s).take j) i).2 ≤ (dsum ((dr.zip s').take j) i).2 := by
  intro j
  induction j with
  | zero => intro _ _; simp [dsum, sumS]
  | succ j ih =>
    intro h1 h2
    have ih := ih (by omega) (by omega)
    obtain ⟨d, hd⟩ := getl (show j < dr.length by omega)
    obtain ⟨x, hx⟩ := getl (show j < s.length by omega)
    obtain ⟨x', hx'⟩ := getl (show j < s'.length by rw [h.len]; omega)
    rw [dsum_take (zip_get hd hx), dsum_take (zip_get hd hx')]
    by_cases c : d.1 = i
    · rw [if_pos c, if_pos c]
      have r := hr j d x hd hx
      have : (dRest d.2.2 x').1 ≤ (dRest d.2.2 x).1 ∧ (dRest d.2.2 x).2 ≤ (dRest d.2.2 x').2 := by
        rcases h.or j x x' hx hx' with rfl | rfl
        · omega
        · exact dRest_unknown r.1 r.2
      simp only; omega
    · rw [if_neg c, if_neg c]; exact ih
theorem dbt_fsum {fa : List Fa} {s s' : List Int} (h : Dbt s s') (hr : ∀ x ∈ s, 0 ≤ x ∧ x ≤ 2) (i q : Int) : ∀ j, j ≤ fa.length → j ≤ s.length → (fsum ((fa.zip s').take j) i q).1 ≤ (fsum ((fa.zip s).take j) i q).1 ∧ (fsum ((fa.zip s).take j) i q).2 ≤ (fsum ((fa.zip s').take j) i q).2 := by
  intro j
  induction j with
  | zero => intro _ _; simp [fsum, bsum, sumS]
  | succ j ih =>
    intro h1 h2
    have ih := ih (by omega) (by omega)
    obtain ⟨d, hd⟩ := getl (show j < fa.length by omega)
    obtain ⟨x, hx⟩ := getl (show j < s.length by omega)
    obtain ⟨x', hx'⟩ := getl (show j < s'.length by rw [h.len]; omega)
    rw [fsum_take (zip_get hd hx), fsum_take (zip_get hd hx')]
    by_cases c : d.1 = i
    · rw [if_pos c, if_pos c]
      have r := hr x (List.mem_of_getElem? hx)
      have : (sure d.2.2.2 d.2.1 x' q).1 ≤ (sure d.2.2.2 d.2.1 x q).1 ∧ (sure d.2.2.2 d.2.1 x q).2 ≤ (sure d.2.2.2 d.2.1 x' q).2 := by
        rcases h.or j x x' hx hx' with rfl | rfl
        · omega
        · exact sure_unknown r.1 r.2
      simp only; omega
    · rw [if_neg c, if_neg c]; exact ih
theorem netF_congr : ∀ (a b : QS) (p : Int), a.map (fun x => (x.1.1, x.1.2.1, x.2)) = b.map (fun x => (x.1.1, x.1.2.1, x.2)) → netF a p = netF b p
  | [], [], _, _ => rfl
  | [], _ :: _, _, h => by simp at h
  | _ :: _, [], _, h => by simp at h
  | x :: a, y :: b, p, h => by
    simp only [List.map_cons, List.cons.injEq, Prod.mk.injEq] at h
    obtain ⟨⟨h1, h2, h3⟩, h4⟩ := h
    simp only [netF, h1, h2, h3, netF_congr a b p h4]
theorem fit_out {dz dz' : DS} {fz fz' : FS} {xp : List Int} {q i : Int} {r r' : Ro} (h : FitR dz fz xp q i r r') (hd : (dsum dz' i).1 ≤ (dsum dz i).1 ∧ (dsum dz i).1 ≤ (dsum dz i).2 ∧ (dsum dz i).2 ≤ (dsum dz' i).2)
    (hf : (fsum fz' i q).1 ≤ (fsum fz i q).1 ∧ (fsum fz i q).1 ≤ (fsum fz i q).2 ∧ (fsum fz i q).2 ≤ (fsum fz' i q).2) : outE (xp.getD r'.1.toNat 0 - xp.getD r'.2.1.toNat 0) (drop dz' fz' i r' q) = 0 := by
  obtain ⟨rest, c1, c2, h0, h1, ⟨a0, a1⟩, ⟨b0, b1⟩, hl⟩ := h.lift
  rw [outE_zero, h.frm, h.to]
  have hq : 0 ≤ q * q := by
    by_cases c : 0 ≤ q
    · exact Int.mul_nonneg c c
    · have := Int.mul_nonneg (show 0 ≤ -q by omega) (show 0 ≤ -q by omega)
      rwa [Int.neg_mul_neg] at this
  have m1 := Int.mul_le_mul_of_nonneg_right (show r.2.2.2.2.2.2.1.1 + (dsum dz' i).1 ≤ rest + (dsum dz i).1 by omega) hq
  have m2 := Int.mul_le_mul_of_nonneg_right (show rest + (dsum dz i).1 ≤ r.2.2.2.2.2.2.1.2 + (dsum dz' i).2 by omega) hq
  unfold drop drp rOf
  rw [hl, h.rest]
  unfold lift0
  by_cases c : q < 0
  · have e : (rest + (dsum dz i).1) * max q (-q) * q = -((rest + (dsum dz i).1) * (q * q)) := by
      rw [show max q (-q) = -q by omega, Int.mul_assoc, Int.neg_mul, Int.mul_neg]
    rw [if_pos c, e]; simp only; omega
  · have e : (rest + (dsum dz i).1) * max q (-q) * q = (rest + (dsum dz i).1) * (q * q) := by
      rw [show max q (-q) = q by omega, Int.mul_assoc]
    rw [if_neg c, e]; simp only; omega
/-- Places that are made. -/
structure MkPl (pl : List Pl) (sh : Nat) : Prop where
  n : pl.length ≤ 6
  s1 : 1 ≤ sh
  sn : sh ≤ pl.length
  hgt : ∀ p ∈ pl, -100 ≤ p.1 ∧ p.1 ≤ 10
  sur : ∀ (j : Nat) p, pl[j]? = some p → (p.2 = true ↔ j < sh)
theorem roadE_of {n i : Nat} {r : Ro} (h : MkRoad n r) (hl : -2199023255552 ≤ r.2.2.2.2.2.2.2.1 ∧ r.2.2.2.2.2.2.2.1 ≤ r.2.2.2.2.2.2.2.2 ∧ r.2.2.2.2.2.2.2.2 ≤ 2199023255552) : roadE n i r = 0 := by
  have h1 := h.frm; have h2 := h.to; have h3 := h.ne; have h4 := h.len; have h5 := h.area; have h6 := h.rest
  unfold roadE
  rw [if_neg (by omega), if_neg (by omega), if_neg (by omega), if_neg (by omega), if_neg (by omega), if_neg (by omega), if_neg (by omega), if_neg (by omega), if_neg (by omega), if_pos (by unfold SpanOk; omega), if_pos hl]
theorem Eqp.fansOk {m : Nat} {fa : List Fa} {dr : List Do} {sf sd : List Int} (h : Eqp m fa dr sf sd) : ferr (fanInE m) 0 fa = 0 := by
  rw [ferr_zero]; intro j f hf
  have := h.fan f (List.mem_of_getElem? hf)
  unfold fanInE; rw [thn_zero]
  exact ⟨good_iff.2 (this.2.2.good this.1), by rw [if_neg (by omega)]⟩
theorem Eqp.doorsOk {m : Nat} {fa : List Fa} {dr : List Do} {sf sd : List Int} (h : Eqp m fa dr sf sd) : doorsE dr = 0 ∧ ferr (doorInE m) 0 dr = 0 := by
  have hn := h.nd
  constructor
  · unfold doorsE; rw [if_neg (by omega), ferr_zero]; intro j d hd
    have hd' := h.door d (List.mem_of_getElem? hd)
    have t := hd'.2.2.2.two; have t' := hd'.2.2.2.le
    unfold doorE
    rw [if_neg (by omega), if_neg (by omega), if_neg (by omega), thn_zero, thn_zero, ferr_zero, ferr_zero]
    refine ⟨fun k x hx => ?_, fun k x hx => ?_, ?_⟩
    · have := hd'.2.2.2.rng x (List.mem_of_getElem? hx)
      unfold restE; rw [if_neg (by omega), if_neg (by omega)]
    · unfold fallE
      by_cases c : 0 + k = 0
      · rw [if_pos c]
      · have := hd'.2.2.2.fall k x hx (by omega)
        rw [Nat.zero_add] at c ⊢
        rw [if_neg c, if_neg (by omega)]
    · unfold otherE; rw [if_pos hd'.2.2.1]
  · rw [ferr_zero]; intro j d hd
    have hd' := h.door d (List.mem_of_getElem? hd)
    unfold doorInE; rw [if_neg (by omega)]
/-- All that is made fits. -/
theorem made_ok {pl : List Pl} {ro ro' : List Ro} {fa : List Fa} {dr : List Do} {sf sd sf' sd' xp xq : List Int} {sh : Nat} (hp : MkPl pl sh) (hr : ∀ r ∈ ro, MkRoad pl.length r) (hn : ro.length ≤ 10) (hx : xp.length = pl.length) (hxb : ∀ x ∈ xp, -4000 ≤ x ∧ x ≤ 4000) (hx0 : ∀ (j : Nat) x, xp[j]? = some x → j < sh → x = 0)
    (hql : xq.length = ro.length) (hqb : ∀ x ∈ xq, -1000 ≤ x ∧ x ≤ 1000) (hcl : ∀ (j : Nat) r q, ro[j]? = some r → xq[j]? = some q → r.2.2.2.2.2.1 = true → q = 0) (hnet : ∀ p : Nat, sh ≤ p → p < pl.length → netF (ro.zip xq) p = 0)
    (he : Eqp ro.length fa dr sf sd) (hl : ro'.length = ro.length) (hf : ∀ (j : Nat) r r', ro[j]? = some r → ro'[j]? = some r' → FitR (dr.zip sd) (fa.zip sf) xp (xq.getD j 0) j r r') (df : Dbt sf sf') (dd : Dbt sd sd') : MadeOk pl ro' fa dr sf' sd' xp xq := by
  have hpn := hp.n; have hs1 := hp.s1; have hsn := hp.sn
  have hnf := he.nf; have hnd := he.nd
  obtain ⟨do1, do2⟩ := he.doorsOk
  have old : ∀ (j : Nat) r', ro'[j]? = some r' → ∃ r q, ro[j]? = some r ∧ xq[j]? = some q ∧ FitR (dr.zip sd) (fa.zip sf) xp q j r r' := fun j r' h => by
    obtain ⟨r, h1⟩ := getl (show j < ro.length by have := idx h; omega)
    obtain ⟨q, h2⟩ := getl (show j < xq.length by have := idx h; omega)
    have := hf j r r' h1 h
    rw [getD_eq h2] at this
    exact ⟨r, q, h1, h2, this⟩
  have bd := fun i : Int => he.dsum (dr.zip sd).length i
  have bf := fun i q : Int => he.fsum sf (fa.zip sf).length i q
  simp only [List.take_of_length_le (Nat.le_refl _)] at bd bf
  have hlift : ∀ r' ∈ ro', -2000000000 ≤ r'.2.2.2.2.2.2.2.1 ∧ r'.2.2.2.2.2.2.2.1 ≤ r'.2.2.2.2.2.2.2.2 ∧ r'.2.2.2.2.2.2.2.2 ≤ 2000000000 := all_get fun j r' hj => by
    obtain ⟨r, q, h1, h2, h3⟩ := old j r' hj
    have hR := hr r (List.mem_of_getElem? h1)
    obtain ⟨rest, c1, c2, g0, g1, g2, g3, g4⟩ := h3.lift
    have bq := hqb q (List.mem_of_getElem? h2)
    have rr := hR.rest
    have b1 := bd j; have b2 := bf j q
    have hm1 : 0 ≤ max q (-q) ∧ max q (-q) ≤ 1000 := by omega
    have hR1 : 0 ≤ rest + (dsum (dr.zip sd) j).1 ∧ rest + (dsum (dr.zip sd) j).1 ≤ 1822 := by omega
    have bm := mul_le hR1.1 hR1.2 hm1.1 hm1.2
    have bm2 : -1822000000 ≤ (rest + (dsum (dr.zip sd) j).1) * max q (-q) * q ∧ (rest + (dsum (dr.zip sd) j).1) * max q (-q) * q ≤ 1822000000 := by
      have a := Int.mul_le_mul_of_nonneg_left bq.1 bm.1
      have b := Int.mul_le_mul_of_nonneg_left bq.2 bm.1
      omega
    have bx : ∀ i : Nat, -4000 ≤ xp.getD i 0 ∧ xp.getD i 0 ≤ 4000 := fun i => by
      by_cases c : i < xp.length
      · exact hxb _ (List.mem_of_getElem? (getD_get c))
      · rw [List.getD_eq_getElem?_getD, List.getElem?_eq_none (by omega)]; simp
    have x1 := bx r.1.toNat; have x2 := bx r.2.1.toNat
    rw [g4]; simp only [lift0]; omega
  refine ⟨?_, ?_, ?_, by omega, hpn, by omega, hnf, hnd, fun d hd => ⟨(he.door d hd).2.2.2.two, (he.door d hd).2.2.2.le⟩, hxb, fun f hf => (he.fan f hf).2.2, fun d hd => (he.door d hd).2.2.1, hlift⟩
  · unfold airE
    rw [thn_zero]
    constructor
    · unfold mineE
      rw [if_neg (by omega), if_neg (by omega), thn_zero, ferr_zero, ferr_zero]
      refine ⟨fun j p hj => ?_, fun j r' hj => ?_⟩
      · have := hp.hgt p (List.mem_of_getElem? hj)
        unfold placeE; rw [if_neg (by omega), if_neg (by omega)]
      · obtain ⟨r, q, h1, h2, h3⟩ := old j r' hj
        have hR := hr r (List.mem_of_getElem? h1)
        have hL := hlift r' (List.mem_of_getElem? hj)
        refine roadE_of ⟨by rw [h3.frm]; exact hR.frm, by rw [h3.to]; exact hR.to, by rw [h3.frm, h3.to]; exact hR.ne, by rw [h3.len]; exact hR.len, by rw [h3.area]; exact hR.area, by rw [h3.rest]; exact hR.rest⟩ (by omega)
    · rw [if_neg (by omega), thn_zero, thn_zero, hl]
      exact ⟨he.fansOk, do1, do2⟩
  · refine SetOk.fit ⟨by rw [df.len, he.lf], by rw [dd.len, he.ld], fun x' hx' => ?_, fun j d x' hd hx' => ?_⟩
    · obtain ⟨j, hj⟩ := List.mem_iff_getElem?.1 hx'
      obtain ⟨x, hx⟩ := getl (show j < sf.length by have := idx hj; rw [df.len] at this; exact this)
      have := he.f x (List.mem_of_getElem? hx)
      rcases df.or j x x' hx hj with rfl | rfl <;> omega
    · obtain ⟨x, hx⟩ := getl (show j < sd.length by have := idx hx'; rw [dd.len] at this; exact this)
      have := he.d j d x hd hx
      rcases dd.or j x x' hx hx' with rfl | rfl <;> omega
  · unfold stE
    rw [if_pos (by omega), if_pos (by omega), thn_zero, thn_zero, thn_zero, thn_zero, ferr_zero, ferr_zero, ferr_zero, ferr_zero, ferr_zero]
    refine ⟨fun j x hj => ?_, fun j x hj => ?_, fun j r' hj => ?_, fun j p hj => ?_, fun j r' hj => ?_⟩
    · have := hxb x (List.mem_of_getElem? hj)
      unfold prE; rw [if_neg (by omega), if_neg (by omega)]
    · have := hqb x (List.mem_of_getElem? hj)
      unfold flE; rw [if_neg (by omega), if_neg (by omega)]
    · obtain ⟨r, q, h1, h2, h3⟩ := old j r' hj
      unfold cloE
      rw [Nat.zero_add, h3.closed, getD_eq h2]
      by_cases c : r.2.2.2.2.2.1 = true
      · rw [if_pos c, if_pos (hcl j r q h1 h2 c)]
      · rw [if_neg c]
    · unfold sumE
      rw [Nat.zero_add]
      have hs := hp.sur j p hj
      obtain ⟨x, hxj⟩ := getl (show j < xp.length by have := idx hj; omega)
      by_cases c : p.2 = true
      · rw [if_pos c, getD_eq hxj, if_pos (hx0 j x hxj (hs.1 c))]
      · rw [if_neg c, if_pos]
        rw [netF_congr _ (ro.zip xq)]
        · exact hnet j (by have := mt hs.2 c; omega) (idx hj)
        · refine List.ext_getElem? fun k => ?_
          rw [List.getElem?_map, List.getElem?_map]
          by_cases hk : k < ro.length
          · obtain ⟨r', hr'⟩ := getl (show k < ro'.length by omega)
            obtain ⟨r, q, h1, h2, h3⟩ := old k r' hr'
            rw [zip_get hr' h2, zip_get h1 h2]
            simp only [Option.map_some, h3.frm, h3.to]
          · rw [List.getElem?_eq_none (by rw [List.length_zip]; omega), List.getElem?_eq_none (by rw [List.length_zip]; omega)]
    · obtain ⟨r, q, h1, h2, h3⟩ := old j r' hj
      unfold droE
      rw [Nat.zero_add, getD_eq h2]
      split
      · rfl
      · have d1 := dbt_dsum dd he.d (j : Int) dr.length (Nat.le_refl _) (by have := he.ld; omega)
        have f1 := dbt_fsum df he.f (j : Int) q fa.length (Nat.le_refl _) (by have := he.lf; omega)
        rw [List.take_of_length_le (by rw [List.length_zip]; omega), List.take_of_length_le (by rw [List.length_zip]; omega)] at d1 f1
        have b1 := bd j; have b2 := bf j q
        exact fit_out h3 (by omega) (by omega)
end Go.Vi.A
/- Made: what it makes. -/
namespace Go.Vi.B
open Go.Proofs Go.Vi.A
set_option linter.unusedVariables false
set_option linter.unusedSimpArgs false
variable {β : Type} {N : Nat} (hN : 1000 ≤ N)
/-- Places more. -/
theorem made_places {l : List Int} {sh : Nat} (hs : 1 ≤ sh ∧ sh ≤ 2) : ∀ (d : Nat) (pl : List Pl) (a : Int), Cod l a → pl.length + d ≤ 6 → MkPl pl sh → ∃ pl' a', Cod l a' ∧ MkPl pl' sh ∧ ∀ n, d < n → ∀ K : List Int → Int → List Pl → List Ro → List Fa → List Do → List Int → List Int → List Int → List Int → List Pl → List Ro → List Fa → List Do → Int → Option β,
    F9.l6 N n l a [] [] [] [] [] [] [] [] pl [] [] [] (sh : Int) (d : Int) (fun z1 z2 z3 z4 z5 z6 z7 z8 z9 z10 z11 z12 z13 z14 z15 _ _ => K z1 z2 z3 z4 z5 z6 z7 z8 z9 z10 z11 z12 z13 z14 z15) = K l a' [] [] [] [] [] [] [] [] pl' [] [] [] (sh : Int) := by
  intro d
  induction d with
  | zero =>
    intro pl a hc _ hp
    refine ⟨pl, a, hc, hp, fun n hn K => ?_⟩
    obtain ⟨n, rfl⟩ : ∃ m, n = m + 1 := ⟨n - 1, by omega⟩
    simp only [F9.l6, res, Int.natCast_zero, gt_iff_lt, Int.lt_irrefl, if_false]
  | succ d ih =>
    intro pl a hc hl hp
    obtain ⟨r, a1, c1, y1, e1⟩ := draw_Next (β := β) (N := N) hc 100
    have r0 := y1.lo; have r1 := y1.hi (by omega)
    have hsn := hp.sn
    obtain ⟨pl', a', c', hp', e⟩ := ih (pl ++ [(-r, false)]) a1 c1 (by simp; omega) ⟨by simp; omega, hp.s1, by simp; omega, fun p h => by
      rcases List.mem_append.1 h with h | h
      · exact hp.hgt p h
      · simp only [List.mem_singleton] at h; subst h; simp only; omega, fun j p h => by
      rcases snoc_get h with ⟨hj, h⟩ | ⟨hj, rfl⟩
      · exact hp.sur j p h
      · simp only [Bool.false_eq_true, false_iff]; omega⟩
    refine ⟨pl', a', c', hp', fun n hn K => ?_⟩
    obtain ⟨n, rfl⟩ : ∃ m, n = m + 1 := ⟨n - 1, by omega⟩
    simp only [F9.l6, res, e1, Int.zero_sub, w_id (x := -r) (by omega) (by omega)]
    rw [if_pos (by omega), if_pos (by omega), w_id (x := ((d + 1 : Nat) : Int) - 1) (by omega) (by omega), show ((d + 1 : Nat) : Int) - 1 = (d : Int) by omega]
    exact e n (by omega) K
/-- Pressures. -/
theorem made_press {l : List Int} {a : Int} (h : Cod l a) (hN : 1000 ≤ N) (pl : List Pl) {sh : Nat} (hn : pl.length ≤ 6) (hs : sh ≤ pl.length) : ∃ xp a', Cod l a' ∧ xp.length = pl.length ∧ (∀ x ∈ xp, -4000 ≤ x ∧ x ≤ 4000) ∧ (∀ (j : Nat) x, xp[j]? = some x → j < sh → x = 0) ∧
    ∀ K : List Int → Int → List Pl → List Ro → List Fa → List Do → List Int → List Int → List Int → List Int → List Pl → List Ro → List Fa → List Do → Int → Int → List Int → List Int → Option β,
    F9.l12 N N l a [] [] [] [] [] [] [] [] pl [] [] [] (sh : Int) (pl.length : Int) (List.replicate pl.length 0) [] (sh : Int) (fun z1 z2 z3 z4 z5 z6 z7 z8 z9 z10 z11 z12 z13 z14 z15 z16 z17 z18 _ _ => K z1 z2 z3 z4 z5 z6 z7 z8 z9 z10 z11 z12 z13 z14 z15 z16 z17 z18) =
      K l a' [] [] [] [] [] [] [] [] pl [] [] [] (sh : Int) (pl.length : Int) xp [] := by
  obtain ⟨⟨a', xp⟩, ⟨c', p1, p2, p3⟩, e⟩ := lfor (len := pl.length) (δ := (List Int → Int → List Pl → List Ro → List Fa → List Do → List Int → List Int → List Int → List Int → List Pl → List Ro → List Fa → List Do → Int → Int → List Int → List Int → Option β) → Option β)
    (L := fun n j (m : Int × List Int) K => F9.l12 N n l m.1 [] [] [] [] [] [] [] [] pl [] [] [] (sh : Int) (pl.length : Int) m.2 [] (j : Int) (fun z1 z2 z3 z4 z5 z6 z7 z8 z9 z10 z11 z12 z13 z14 z15 z16 z17 z18 _ _ => K z1 z2 z3 z4 z5 z6 z7 z8 z9 z10 z11 z12 z13 z14 z15 z16 z17 z18))
    (k := fun m K => K l m.1 [] [] [] [] [] [] [] [] pl [] [] [] (sh : Int) (pl.length : Int) m.2 [])
    (fun j m => Cod l m.1 ∧ m.2.length = pl.length ∧ (∀ x ∈ m.2, -4000 ≤ x ∧ x ≤ 4000) ∧ (∀ (k : Nat) x, m.2[k]? = some x → k < sh → x = 0) ∧ sh ≤ j)
    (fun n m hm => funext fun K => by simp only [F9.l12, res, Int.lt_irrefl, if_false])
    (fun j m hj hm => by
      obtain ⟨g1, g2, g3, g4, g5⟩ := hm
      obtain ⟨r, a1, c1, r0, r1, e1⟩ := draw_Range (β := β) (N := N) g1 (lo := -4000) (hi := 4000) (by omega) (by omega) (by omega)
      obtain ⟨x, hx⟩ := getl (show j < m.2.length by omega)
      refine ⟨(a1, m.2.set j r), ⟨c1, by rw [List.length_set]; exact g2, fun y hy => ?_, fun k y hk hks => ?_, by omega⟩, fun n => funext fun K => ?_⟩
      · rcases List.mem_or_eq_of_mem_set hy with hy | rfl
        · exact g3 y hy
        · exact ⟨r0, r1⟩
      · rw [List.getElem?_set_ne (by omega)] at hk; exact g4 k y hk hks
      · simp only [F9.l12, res, e1, Int.toNat_natCast, hx, ge_some, w_succ (show j < 4000000000 by omega)]
        rw [if_pos (by omega), if_pos (by omega)]) sh (a, List.replicate pl.length 0) N ⟨h, by simp, fun x hx => by have := List.eq_of_mem_replicate hx; omega, fun k x hk _ => by
        exact List.eq_of_mem_replicate (List.mem_of_getElem? hk), Nat.le_refl _⟩ hs (by omega)
  exact ⟨xp, a', c', p1, p2, p3.1, fun K => congrFun e K⟩
/-- Roads that are made, with their flows. -/
structure MkRo (n : Nat) (ro : List Ro) (xq : List Int) (M : Int) : Prop where
  len : xq.length = ro.length
  road : ∀ r ∈ ro, MkRoad n r
  fl : ∀ q ∈ xq, -M ≤ q ∧ q ≤ M
  cl : ∀ (j : Nat) r q, ro[j]? = some r → xq[j]? = some q → r.2.2.2.2.2.1 = true → q = 0
theorem MkRo.snoc {n : Nat} {ro : List Ro} {xq : List Int} {M q : Int} {r : Ro} (h : MkRo n ro xq M) (hr : MkRoad n r) (hq : -M ≤ q ∧ q ≤ M) (hc : r.2.2.2.2.2.1 = true → q = 0) : MkRo n (ro ++ [r]) (xq ++ [q]) M :=
  ⟨by simp [h.len], fun x hx => by
    rcases List.mem_append.1 hx with hx | hx
    · exact h.road x hx
    · simp only [List.mem_singleton] at hx; subst hx; exact hr, fun x hx => by
    rcases List.mem_append.1 hx with hx | hx
    · exact h.fl x hx
    · simp only [List.mem_singleton] at hx; subst hx; exact hq, fun j x y hx hy => by
    rcases snoc_get hx with ⟨hj, hx⟩ | ⟨hj, rfl⟩
    · rcases snoc_get hy with ⟨hj', hy⟩ | ⟨hj', rfl⟩
      · exact h.cl j x y hx hy
      · have := h.len; omega
    · rcases snoc_get hy with ⟨hj', hy⟩ | ⟨hj', rfl⟩
      · have := h.len; omega
      · exact hc⟩
theorem zip_snoc {α γ : Type} {a : List α} {b : List γ} (h : b.length = a.length) (x : α) (y : γ) : (a ++ [x]).zip (b ++ [y]) = a.zip b ++ [(x, y)] := by
  rw [List.zip_append (by omega)]; rfl
/-- Any roads between places. -/
theorem made_roads {l : List Int} {n : Nat} (hn : 2 ≤ n ∧ n ≤ 6) (pl : List Pl) (sh : Int) (xp : List Int) : ∀ (d : Nat) (ro : List Ro) (xq : List Int) (a : Int), Cod l a → ro.length + d ≤ 5 → MkRo n ro xq 60 → ∃ ro' xq' a', Cod l a' ∧ ro'.length ≤ 5 ∧ MkRo n ro' xq' 60 ∧
    ∀ m, d < m → ∀ K : List Int → Int → List Pl → List Ro → List Fa → List Do → List Int → List Int → List Int → List Int → List Pl → List Ro → List Fa → List Do → Int → Int → List Int → List Int → List Int → Option β,
    F9.l18 N m l a [] [] [] [] [] [] [] [] pl ro [] [] sh (n : Int) xp xq (tab n fun p => netF (ro.zip xq) p) (d : Int) (fun z1 z2 z3 z4 z5 z6 z7 z8 z9 z10 z11 z12 z13 z14 z15 z16 z17 z18 z19 _ _ => K z1 z2 z3 z4 z5 z6 z7 z8 z9 z10 z11 z12 z13 z14 z15 z16 z17 z18 z19) =
      K l a' [] [] [] [] [] [] [] [] pl ro' [] [] sh (n : Int) xp xq' (tab n fun p => netF (ro'.zip xq') p) := by
  intro d
  induction d with
  | zero =>
    intro ro xq a hc hl hp
    refine ⟨ro, xq, a, hc, by omega, hp, fun m hm K => ?_⟩
    obtain ⟨m, rfl⟩ : ∃ k, m = k + 1 := ⟨m - 1, by omega⟩
    simp only [F9.l18, res, Int.natCast_zero, gt_iff_lt, Int.lt_irrefl, if_false]
  | succ d ih =>
    intro ro xq a hc hl hp
    obtain ⟨f, a1, c1, y1, e1⟩ := draw_Next (β := β) (N := N) hc (n : Int)
    obtain ⟨t, a2, c2, y2, e2⟩ := draw_Next (β := β) (N := N) c1 ((n : Int) - 1)
    have f0 := y1.lo; have f1 := y1.hi (by omega); have t0 := y2.lo; have t1 := y2.hi (by omega)
    have hto := tmod_bd (v := f + 1 + t) (n := (n : Int)) (by omega) (by omega)
    have hne : f ≠ Int.tmod (f + 1 + t) (n : Int) := by
      rw [Int.tmod_eq_emod_of_nonneg (by omega)]
      intro h
      by_cases c : f + 1 + t < n
      · rw [Int.emod_eq_of_lt (by omega) c] at h; omega
      · have : (f + 1 + t) % (n : Int) = f + 1 + t - n := by
          rw [← Int.sub_emod_right, Int.emod_eq_of_lt (by omega) (by omega)]
        omega
    obtain ⟨ln, ar, wk, r0, r1, l0, l1, a3, c3, hln, har, hr, hli, e3⟩ := draw_Road (β := β) (N := N) c2 f (Int.tmod (f + 1 + t) (n : Int))
    obtain ⟨b, a4, c4, e4⟩ := draw_One (β := β) (N := N) c3 7
    obtain ⟨q, a5, c5, q0, q1, e5⟩ := draw_Range (β := β) (N := N) c4 (lo := -60) (hi := 60) (by omega) (by omega) (by omega)
    have hz := hp.len
    obtain ⟨ro', xq', a', c', hl', hp', e⟩ := ih (ro ++ [(f, (Int.tmod (f + 1 + t) (n : Int), (ln, (ar, (wk, (b, ((r0, r1), (l0, l1))))))))]) (xq ++ [if b = true then 0 else q]) a5 c5 (by simp; omega) (hp.snoc ⟨⟨f0, f1⟩, hto, hne, hln, by omega, hr⟩ (by split <;> omega) (fun h => if_pos h))
    refine ⟨ro', xq', a', c', hl', hp', fun m hm K => ?_⟩
    obtain ⟨m, rfl⟩ : ∃ k, m = k + 1 := ⟨m - 1, by omega⟩
    have zl : ((ro ++ [(f, (Int.tmod (f + 1 + t) (n : Int), (ln, (ar, (wk, (b, ((r0, r1), (l0, l1))))))))]).zip (xq ++ [if b = true then 0 else q])).take ro.length = ro.zip xq := by
      rw [zip_snoc hz, List.take_append_of_le_length (by rw [List.length_zip]; omega), List.take_of_length_le (by rw [List.length_zip]; omega)]
    have zl' : ((ro ++ [(f, (Int.tmod (f + 1 + t) (n : Int), (ln, (ar, (wk, (b, ((r0, r1), (l0, l1))))))))]).zip (xq ++ [if b = true then 0 else q])).take (ro.length + 1) = (ro ++ [(f, (Int.tmod (f + 1 + t) (n : Int), (ln, (ar, (wk, (b, ((r0, r1), (l0, l1))))))))]).zip (xq ++ [if b = true then 0 else q]) := by
      rw [List.take_of_length_le (by rw [List.length_zip]; simp; omega)]
    have zg : ((ro ++ [(f, (Int.tmod (f + 1 + t) (n : Int), (ln, (ar, (wk, (b, ((r0, r1), (l0, l1))))))))]).zip (xq ++ [if b = true then 0 else q]))[ro.length]? = some ((f, (Int.tmod (f + 1 + t) (n : Int), (ln, (ar, (wk, (b, ((r0, r1), (l0, l1)))))))), if b = true then 0 else q) := by
      rw [zip_snoc hz, List.getElem?_append_right (by rw [List.length_zip]; omega)]
      simp [List.length_zip, hz]
    have hset := net_set (n := n) zg f0 hto.1 hne
    have g1 := net_get (n := n) (z := (ro ++ [(f, (Int.tmod (f + 1 + t) (n : Int), (ln, (ar, (wk, (b, ((r0, r1), (l0, l1))))))))]).zip (xq ++ [if b = true then 0 else q])) (j := ro.length) f0 f1
    have g2 := fun x => net_get2 (n := n) (z := (ro ++ [(f, (Int.tmod (f + 1 + t) (n : Int), (ln, (ar, (wk, (b, ((r0, r1), (l0, l1))))))))]).zip (xq ++ [if b = true then 0 else q])) (j := ro.length) (x := x) hto.1 hto.2 f0 hne
    rw [zl, zl'] at hset
    rw [zl] at g1 g2
    have nb : ∀ p, -600 ≤ netF (ro.zip xq) p ∧ netF (ro.zip xq) p ≤ 600 := fun p => by
      have := netF_bd (M := 60) (by omega) (ro.zip xq) 5 p (fun x hx => hp.fl _ (List.of_mem_zip hx).2) (by rw [List.length_zip]; omega)
      omega
    have n1 := nb f; have n2 := nb (Int.tmod (f + 1 + t) (n : Int))
    have hd : w (((d + 1 : Nat) : Int) - 1) = (d : Int) := by rw [w_id (by omega) (by omega)]; omega
    have ee := e m (by omega) K
    simp only [F9.l18, res, e1, w_id (x := (n : Int) - 1) (by omega) (by omega), e2, w_id (x := f + 1) (by omega) (by omega), w_id (x := f + 1 + t) (by omega) (by omega), e3, e4, e5, f0, hto.1, if_true, g1, g2, ge_some, hd]
    rw [if_pos (by omega), if_neg (by omega)]
    cases b with
    | true =>
      simp only [if_true] at hset ee
      simp only [res, w_id (x := netF (ro.zip xq) f + 0) (by omega) (by omega), w_id (x := netF (ro.zip xq) (Int.tmod (f + 1 + t) (n : Int)) - 0) (by omega) (by omega), hset]
      rw [if_pos (by omega), if_pos (by omega)]
      exact ee
    | false =>
      simp only [Bool.false_eq_true, if_false] at hset ee
      simp only [res, w_id (x := netF (ro.zip xq) f + q) (by omega) (by omega), w_id (x := netF (ro.zip xq) (Int.tmod (f + 1 + t) (n : Int)) - q) (by omega) (by omega), hset]
      rw [if_pos (by omega), if_pos (by omega)]
      exact ee
end Go.Vi.B
/- Made: shafts, and all of it. -/
namespace Go.Vi.B
open Go.Proofs Go.Vi.A
set_option linter.unusedVariables false
set_option linter.unusedSimpArgs false
variable {β : Type} {N : Nat} (hN : 1000 ≤ N)
include hN in
/-- Roads to shafts: what comes leaves. -/
theorem made_shafts {l : List Int} {a : Int} (h : Cod l a) {n sh : Nat} (hn : n ≤ 6) (hs : 1 ≤ sh) (hsn : sh ≤ n) (pl : List Pl) (xp : List Int) {ro : List Ro} {xq : List Int} (hl : ro.length ≤ 5) (hp : MkRo n ro xq 60) :
    ∃ ro' xq' a', Cod l a' ∧ ro'.length ≤ 10 ∧ MkRo n ro' xq' 1000 ∧ (∀ p : Nat, sh ≤ p → p < n → netF (ro'.zip xq') p = 0) ∧
    ∀ K : List Int → Int → List Pl → List Ro → List Fa → List Do → List Int → List Int → Option β,
    F9.l30 N N l a [] [] [] [] [] [] [] [] pl ro [] [] (sh : Int) (n : Int) xp xq (tab n fun p => netF (ro.zip xq) p) (sh : Int) (fun z1 z2 _ _ _ _ _ _ _ _ z11 z12 z13 z14 _ _ z17 z18 _ _ _ => K z1 z2 z11 z12 z13 z14 z17 z18) = K l a' pl ro' [] [] xp xq' := by
  have nb : ∀ p, -600 ≤ netF (ro.zip xq) p ∧ netF (ro.zip xq) p ≤ 600 := fun p => by
    have := netF_bd (M := 60) (by omega) (ro.zip xq) 5 p (fun x hx => hp.fl _ (List.of_mem_zip hx).2) (by rw [List.length_zip]; omega)
    omega
  obtain ⟨⟨a', ro', xq'⟩, ⟨c', p1, p2, p3, p4⟩, e⟩ := lfor (len := n) (δ := (List Int → Int → List Pl → List Ro → List Fa → List Do → List Int → List Int → Option β) → Option β)
    (L := fun m j (s : Int × List Ro × List Int) K => F9.l30 N m l s.1 [] [] [] [] [] [] [] [] pl s.2.1 [] [] (sh : Int) (n : Int) xp s.2.2 (tab n fun p => netF (ro.zip xq) p) (j : Int) (fun z1 z2 _ _ _ _ _ _ _ _ z11 z12 z13 z14 _ _ z17 z18 _ _ _ => K z1 z2 z11 z12 z13 z14 z17 z18))
    (k := fun s K => K l s.1 pl s.2.1 [] [] xp s.2.2)
    (fun j s => Cod l s.1 ∧ sh ≤ j ∧ s.2.1.length ≤ 5 + (j - sh) ∧ MkRo n s.2.1 s.2.2 1000 ∧ ∀ p : Nat, sh ≤ p → p < n → netF (s.2.1.zip s.2.2) p = if p < j then 0 else netF (ro.zip xq) p)
    (fun m s hs => funext fun K => by simp only [F9.l30, res, Int.lt_irrefl, if_false])
    (fun j s hj hs => by
      obtain ⟨a, ro1, xq1⟩ := s
      obtain ⟨g1, g2, g3, g4, g5⟩ := hs
      simp only at g1 g3 g4 g5
      obtain ⟨t, a1, c1, y1, e1⟩ := draw_Next (β := β) (N := N) g1 (sh : Int)
      have t0 := y1.lo; have t1 := y1.hi (by omega)
      obtain ⟨ln, ar, wk, r0, r1, l0, l1, a2, c2, hln, har, hr, hli, e2⟩ := draw_Road (β := β) (N := N) c1 (j : Int) t
      obtain ⟨b, a3, c3, e3⟩ := draw_One (β := β) (N := N) c2 2
      have nj := nb j
      have hg : (tab n fun p => netF (ro.zip xq) p)[j]? = some (netF (ro.zip xq) j) := tab_get hj
      have hz := g4.len
      have h5 := g5 j g2 hj
      rw [if_neg (by omega)] at h5
      cases b with
      | false =>
        refine ⟨(a3, ro1 ++ [((j : Int), (t, (ln, (ar, (wk, (false, ((r0, r1), (l0, l1))))))))], xq1 ++ [-netF (ro.zip xq) j]), ⟨c3, by omega, by simp only [List.length_append, List.length_singleton]; omega,
          g4.snoc ⟨by simp only; omega, by simp only; omega, by simp only; omega, hln, by simp only; omega, hr⟩ (by omega) (fun h => by cases h), fun p q0 q1 => ?_⟩, fun m => funext fun K => ?_⟩
        · simp only
          rw [zip_snoc hz, netF_append, g5 p q0 q1]
          simp only [netF]
          by_cases c : p = j
          · subst c
            repeat' split
            all_goals omega
          · repeat' split
            all_goals omega
        · simp only [F9.l30, res, e1, e2, e3, Int.toNat_natCast, hg, ge_some, w_succ (show j < 4000000000 by omega), Int.zero_sub, w_id (x := -netF (ro.zip xq) j) (by omega) (by omega)]
          rw [if_pos (by omega), if_pos (by omega), if_pos (by omega), if_pos (by omega)]
      | true =>
        refine ⟨(a3, ro1 ++ [(t, ((j : Int), (ln, (ar, (wk, (false, ((r0, r1), (l0, l1))))))))], xq1 ++ [netF (ro.zip xq) j]), ⟨c3, by omega, by simp only [List.length_append, List.length_singleton]; omega,
          g4.snoc ⟨by simp only; omega, by simp only; omega, by simp only; omega, hln, by simp only; omega, hr⟩ (by omega) (fun h => by cases h), fun p q0 q1 => ?_⟩, fun m => funext fun K => ?_⟩
        · simp only
          rw [zip_snoc hz, netF_append, g5 p q0 q1]
          simp only [netF]
          by_cases c : p = j
          · subst c
            repeat' split
            all_goals omega
          · repeat' split
            all_goals omega
        · simp only [F9.l30, res, e1, e2, e3, Int.toNat_natCast, hg, ge_some, w_succ (show j < 4000000000 by omega), Int.zero_sub, w_id (x := -netF (ro.zip xq) j) (by omega) (by omega), Int.neg_neg, w_id (x := netF (ro.zip xq) j) (by omega) (by omega)]
          rw [if_pos (by omega), if_pos (by omega), if_pos (by omega), if_pos (by omega)]) sh (a, ro, xq) N ⟨h, Nat.le_refl _, by simp only; omega, ⟨hp.len, hp.road, fun q hq => by have := hp.fl q hq; omega, hp.cl⟩, fun p q0 q1 => by rw [if_neg (by omega)]⟩ hsn (by omega)
  simp only at c' p2 p3 p4
  exact ⟨ro', xq', a', c', by omega, p3, fun p q0 q1 => by rw [p4 p q0 q1, if_pos q1], fun K => congrFun e K⟩
include hN in
/-- What stands behind the shafts. -/
theorem made_end {l : List Int} {a : Int} (h : Cod l a) {pl : List Pl} {sh : Nat} (hp : MkPl pl sh) {xp : List Int} (hx : xp.length = pl.length) (hxb : ∀ x ∈ xp, -4000 ≤ x ∧ x ≤ 4000) (hx0 : ∀ (j : Nat) x, xp[j]? = some x → j < sh → x = 0) {ro : List Ro} {xq : List Int} (hl : ro.length ≤ 5) (hm : MkRo pl.length ro xq 60) :
    ∃ ro' xq' fa dr sf sd a', Cod l a' ∧ MadeOk pl ro' fa dr sf sd xp xq' ∧
    ∀ k : List Int → List Int → List Pl → List Ro → List Fa → List Do → List Int → List Int → List Int → Int → Option β,
    F9.l30 N N l a [] [] [] [] [] [] [] [] pl ro [] [] (sh : Int) (pl.length : Int) xp xq (tab pl.length fun p => netF (ro.zip xq) p) (sh : Int) (fun z249 z250 _ _ _ _ _ _ _ _ z259 z260 z261 z262 _ _ z265 z266 _ _ _ =>
      F26.C N z249 z250 z259 z260 z261 z262 fun r270 r271 r272 r273 r274 r275 r276 r277 =>
      F27.C N r272 r273 r274 r275 r276 r277 r270 r271 z265 z266 fun r278 r279 r280 r281 r282 r283 =>
      F28.C N r278 r279 r280 r281 r282 r283 r270 r271 fun r284 r285 r286 r287 =>
      k z265 z266 r280 r281 r282 r283 r284 r285 r286 r287) = k xp xq' pl ro' fa dr sf sd l a' := by
  obtain ⟨ro1, xq1, a1, c1, n1, m1, z1, e1⟩ := made_shafts (β := β) hN h hp.n hp.s1 hp.sn pl xp hl hm
  obtain ⟨sf, sd, fa, dr, a2, c2, q2, e2⟩ := draw_equipped (β := β) hN c1 pl (ro := ro1) (by omega)
  obtain ⟨ro2, a3, c3, n3, f3, e3⟩ := draw_fit (β := β) hN c2 pl q2 (by omega) (fun r hr => by rw [hx]; exact m1.road r hr) hxb m1.len m1.fl
  obtain ⟨sf', sd', a4, c4, d4, d4', e4⟩ := draw_doubts (β := β) hN c3 pl ro2 fa dr (sf := sf) (sd := sd) (by have := q2.lf; have := q2.nf; omega) (by have := q2.ld; have := q2.nd; omega)
  refine ⟨ro2, xq1, fa, dr, sf', sd', a4, c4, made_ok hp m1.road n1 hx hxb hx0 m1.len m1.fl m1.cl z1 q2 n3 f3 d4 d4', fun k => ?_⟩
  refine (e1 fun z1 z2 z11 z12 z13 z14 z17 z18 => _).trans ?_
  rw [e2, e3, e4]
include hN in
theorem made_tail {l : List Int} {a : Int} (h : Cod l a) {pl0 : List Pl} (hp0 : pl0.length ≤ 2) (hp : MkPl pl0 pl0.length) :
    ∃ pl ro fa dr sf sd xp xq a', Cod l a' ∧ MadeOk pl ro fa dr sf sd xp xq ∧
    ∀ k0 : List Int → List Int → List Pl → List Ro → List Fa → List Do → List Int → List Int → List Int → Int → Option β,
    (F23.C N l a 5 fun r146 r147 r148 =>
 F9.l6 N N r147 r148 [] [] [] [] [] [] [] [] pl0 [] [] [] (pl0.length : Int) r146 fun z149 z150 z151 z152 z153 z154 z155 z156 z157 z158 z159 z160 z161 z162 z163 _ _ =>
 ck ((z159.length : Int) = (z159.length : Int)) <|
 ck (0 ≤ (z159.length : Int)) <|
 ck ((z159.length : Int) ≤ 1000000000) <|
 F9.l12 N N z149 z150 z151 z152 z153 z154 z155 z156 z157 z158 z159 z160 z161 z162 z163 (z159.length : Int) (List.replicate (Int.toNat (z159.length : Int)) 0) [] z163 fun z166 z167 z168 z169 z170 z171 z172 z173 z174 z175 z176 z177 z178 z179 z180 z181 z182 z183 _ _ =>
 ck (z181 = z181) <|
 ck (0 ≤ z181) <|
 ck (z181 ≤ 1000000000) <|
 bl (z181 > 1) (
  F9.l30 N N z166 z167 z168 z169 z170 z171 z172 z173 z174 z175 z176 z177 z178 z179 z180 z181 z182 z183 (List.replicate (Int.toNat z181) 0) z180 fun z249 z250 _ _ _ _ _ _ _ _ z259 z260 z261 z262 _ _ z265 z266 _ _ _ =>
  F26.C N z249 z250 z259 z260 z261 z262 fun r270 r271 r272 r273 r274 r275 r276 r277 =>
  F27.C N r272 r273 r274 r275 r276 r277 r270 r271 z265 z266 fun r278 r279 r280 r281 r282 r283 =>
  F28.C N r278 r279 r280 r281 r282 r283 r270 r271 fun r284 r285 r286 r287 =>
  k0 z265 z266 r280 r281 r282 r283 r284 r285 r286 r287) <|
 F23.C N z166 z167 6 fun r186 r187 r188 =>
 F9.l18 N N r187 r188 z168 z169 z170 z171 z172 z173 z174 z175 z176 z177 z178 z179 z180 z181 z182 z183 (List.replicate (Int.toNat z181) 0) r186 fun z189 z190 z191 z192 z193 z194 z195 z196 z197 z198 z199 z200 z201 z202 z203 z204 z205 z206 z207 _ _ =>
 F9.l30 N N z189 z190 z191 z192 z193 z194 z195 z196 z197 z198 z199 z200 z201 z202 z203 z204 z205 z206 z207 z203 fun z210 z211 _ _ _ _ _ _ _ _ z220 z221 z222 z223 _ _ z226 z227 _ _ _ =>
 F26.C N z210 z211 z220 z221 z222 z223 fun r231 r232 r233 r234 r235 r236 r237 r238 =>
 F27.C N r233 r234 r235 r236 r237 r238 r231 r232 z226 z227 fun r239 r240 r241 r242 r243 r244 =>
 F28.C N r239 r240 r241 r242 r243 r244 r231 r232 fun r245 r246 r247 r248 =>
 k0 z226 z227 r241 r242 r243 r244 r245 r246 r247 r248) = k0 xp xq pl ro fa dr sf sd l a' := by
  have hs1 := hp.s1
  obtain ⟨d, a1, c1, y1, e1⟩ := draw_Next (β := β) (N := N) h 5
  obtain ⟨d, rfl⟩ := Int.eq_ofNat_of_zero_le y1.lo
  have d1 := y1.hi (by omega)
  obtain ⟨pl, a2, c2, p2, e2⟩ := made_places (β := β) (N := N) ⟨hs1, hp0⟩ d pl0 a1 c1 (by omega) hp
  have hn := p2.n; have hsn := p2.sn
  obtain ⟨xp, a3, c3, x1, x2, x3, e3⟩ := made_press (β := β) c2 hN pl hn hsn
  have z0 : List.replicate pl.length (0 : Int) = tab pl.length fun p => netF (([] : List Ro).zip []) p := by rw [tab_rep]; rfl
  by_cases c : pl.length = 1
  · obtain ⟨ro, xq, fa, dr, sf, sd, a4, c4, m4, e4⟩ := made_end (β := β) hN c3 p2 x1 x2 x3 (ro := []) (xq := []) (by simp) ⟨rfl, by simp, by simp, by simp⟩
    refine ⟨pl, ro, fa, dr, sf, sd, xp, xq, a4, c4, m4, fun k => ?_⟩
    rw [e1]
    refine (e2 N (by omega) fun z149 z150 z151 z152 z153 z154 z155 z156 z157 z158 z159 z160 z161 z162 z163 => _).trans ?_
    simp only [res, if_true, Int.toNat_natCast]
    rw [if_pos (by omega), if_pos (by omega)]
    refine (e3 fun z166 z167 z168 z169 z170 z171 z172 z173 z174 z175 z176 z177 z178 z179 z180 z181 z182 z183 => _).trans ?_
    simp only [if_true, Int.toNat_natCast]
    rw [if_pos (by omega), if_pos (by omega), if_neg (by omega), z0]
    exact e4 k
  · obtain ⟨d2, a4, c4, y4, e4⟩ := draw_Next (β := β) (N := N) c3 6
    obtain ⟨d2, rfl⟩ := Int.eq_ofNat_of_zero_le y4.lo
    have d4 := y4.hi (by omega)
    obtain ⟨ro1, xq1, a5, c5, n5, m5, e5⟩ := made_roads (β := β) (N := N) (n := pl.length) (by omega) pl (pl0.length : Int) xp d2 [] [] a4 c4 (by simp; omega) ⟨rfl, by simp, by simp, by simp⟩
    obtain ⟨ro, xq, fa, dr, sf, sd, a6, c6, m6, e6⟩ := made_end (β := β) hN c5 p2 x1 x2 x3 n5 m5
    refine ⟨pl, ro, fa, dr, sf, sd, xp, xq, a6, c6, m6, fun k => ?_⟩
    rw [e1]
    refine (e2 N (by omega) fun z149 z150 z151 z152 z153 z154 z155 z156 z157 z158 z159 z160 z161 z162 z163 => _).trans ?_
    simp only [res, if_true, Int.toNat_natCast]
    rw [if_pos (by omega), if_pos (by omega)]
    refine (e3 fun z166 z167 z168 z169 z170 z171 z172 z173 z174 z175 z176 z177 z178 z179 z180 z181 z182 z183 => _).trans ?_
    simp only [if_true, Int.toNat_natCast, e4]
    rw [if_pos (by omega), if_pos (by omega), if_pos (by omega), z0]
    refine (e5 N (by omega) fun z189 z190 z191 z192 z193 z194 z195 z196 z197 z198 z199 z200 z201 z202 z203 z204 z205 z206 z207 => _).trans ?_
    exact e6 k
include hN in
/-- Made. -/
theorem draw_Made {l : List Int} {a : Int} (h : Cod l a) : ∃ pl ro fa dr sf sd xp xq a', Cod l a' ∧ MadeOk pl ro fa dr sf sd xp xq ∧
    ∀ k : List Int → List Int → List Pl → List Ro → List Fa → List Do → List Int → List Int → List Int → Int → Option β, F9.C N l a k = k xp xq pl ro fa dr sf sd l a' := by
  obtain ⟨b, a1, c1, e1⟩ := draw_One (β := β) (N := N) h 3
  cases b with
  | true =>
    obtain ⟨pl, ro, fa, dr, sf, sd, xp, xq, a2, c2, m2, e2⟩ := made_tail (β := β) hN c1 (pl0 := [(0, true)] ++ [(10, true)]) (by simp) ⟨by simp, by simp, by simp, fun p hp => by
      simp at hp; rcases hp with rfl | rfl <;> simp, fun j p hj => by
      have := idx hj
      simp at this
      obtain rfl | rfl : j = 0 ∨ j = 1 := by omega
      · simp at hj; subst hj; simp
      · simp at hj; subst hj; simp⟩
    refine ⟨pl, ro, fa, dr, sf, sd, xp, xq, a2, c2, m2, fun k => ?_⟩
    rw [F9.C_eq]; unfold F9.K
    rw [e1]
    exact e2 k
  | false =>
    obtain ⟨pl, ro, fa, dr, sf, sd, xp, xq, a2, c2, m2, e2⟩ := made_tail (β := β) hN c1 (pl0 := [(0, true)]) (by simp) ⟨by simp, by simp, by simp, fun p hp => by
      simp at hp; subst hp; simp, fun j p hj => by
      have := idx hj
      simp at this
      subst this
      simp at hj; subst hj; simp⟩
    refine ⟨pl, ro, fa, dr, sf, sd, xp, xq, a2, c2, m2, fun k => ?_⟩
    rw [F9.C_eq]; unfold F9.K
    rw [e1]
    exact e2 k
end Go.Vi.B
/- Differences of pressure rise with the flow; what searches find. -/
namespace Go.Vi.A
set_option linter.unusedVariables false
theorem sq_mono {a b : Int} (h0 : 0 ≤ a) (h : a < b) : a * a < b * b := by
  have h1 : a * a ≤ a * b := Int.mul_le_mul_of_nonneg_left (by omega) h0
  have h2 : a * b < b * b := Int.mul_lt_mul_of_pos_right h (by omega)
  omega
theorem sq_neg (q : Int) : (-q) * (-q) = q * q := Int.neg_mul_neg q q
/-- Both ends rise strictly. -/
theorem drp_mono {rest lift fs fs' : Sp} {q q' : Int} (h1 : 1 ≤ rest.1) (h2 : rest.1 ≤ rest.2) (hq : q < q') (hf : fs'.1 ≤ fs.1 ∧ fs'.2 ≤ fs.2) : (drp rest lift fs q).1 < (drp rest lift fs' q').1 ∧ (drp rest lift fs q).2 < (drp rest lift fs' q').2 := by
  have s0 : 0 ≤ q * q := by
    by_cases c : 0 ≤ q
    · exact Int.mul_nonneg c c
    · have := Int.mul_nonneg (show 0 ≤ -q by omega) (show 0 ≤ -q by omega); rwa [sq_neg] at this
  have s0' : 0 ≤ q' * q' := by
    by_cases c : 0 ≤ q'
    · exact Int.mul_nonneg c c
    · have := Int.mul_nonneg (show 0 ≤ -q' by omega) (show 0 ≤ -q' by omega); rwa [sq_neg] at this
  have m1 := Int.mul_nonneg (show 0 ≤ rest.1 by omega) s0'
  have m2 := Int.mul_nonneg (show 0 ≤ rest.2 by omega) s0'
  have m3 := Int.mul_nonneg (show 0 ≤ rest.1 by omega) s0
  have m4 := Int.mul_nonneg (show 0 ≤ rest.2 by omega) s0
  unfold drp
  by_cases c : q < 0
  · by_cases c' : q' < 0
    · have := sq_mono (a := -q') (b := -q) (by omega) (by omega)
      rw [sq_neg, sq_neg] at this
      have a1 := Int.mul_lt_mul_of_pos_left this (show 0 < rest.1 by omega)
      have a2 := Int.mul_lt_mul_of_pos_left this (show 0 < rest.2 by omega)
      rw [if_pos c, if_pos c']; simp only; omega
    · have := sq_mono (a := 0) (b := -q) (by omega) (by omega)
      rw [sq_neg, Int.mul_zero] at this
      have a1 := Int.mul_pos (show 0 < rest.1 by omega) this
      have a2 := Int.mul_pos (show 0 < rest.2 by omega) this
      rw [if_pos c, if_neg c']; simp only; omega
  · have := sq_mono (a := q) (b := q') (by omega) hq
    have a1 := Int.mul_lt_mul_of_pos_left this (show 0 < rest.1 by omega)
    have a2 := Int.mul_lt_mul_of_pos_left this (show 0 < rest.2 by omega)
    rw [if_neg c, if_neg (by omega)]; simp only; omega
theorem sumS_anti {α : Type} {f g : α → Sp} : ∀ (l : List α), (∀ x ∈ l, (g x).1 ≤ (f x).1 ∧ (g x).2 ≤ (f x).2) → (sumS (l.map g)).1 ≤ (sumS (l.map f)).1 ∧ (sumS (l.map g)).2 ≤ (sumS (l.map f)).2
  | [], _ => by simp [sumS]
  | x :: r, h => by
    have ih := sumS_anti r (fun y hy => h y (List.mem_cons_of_mem _ hy))
    have hx := h x List.mem_cons_self
    simp only [List.map_cons, sumS]; omega
theorem fsum_anti {fa : List Fa} {sf : List Int} (h : ∀ f ∈ fa, GoodF f.1 f.2.2.2) (i : Int) {q q' : Int} (hq : q ≤ q') : (fsum (fa.zip sf) i q').1 ≤ (fsum (fa.zip sf) i q).1 ∧ (fsum (fa.zip sf) i q').2 ≤ (fsum (fa.zip sf) i q).2 := by
  unfold fsum bsum
  exact sumS_anti _ fun x hx => sure_anti (h _ (List.of_mem_zip (List.mem_filter.1 hx).1).1) _ _ hq
/-- A function both of whose ends rise strictly, and whose ends are in order. -/
structure Ris (f : Int → Sp) : Prop where
  lo : ∀ q q', q < q' → (f q).1 < (f q').1
  hi : ∀ q q', q < q' → (f q).2 < (f q').2
  le : ∀ q, (f q).1 ≤ (f q).2
theorem bsl_spec {g : Int → Bool} : ∀ (n : Nat) (lo hi : Int), lo ≤ hi → hi - lo < 2 ^ n → lo ≤ bsl g n lo hi ∧ bsl g n lo hi ≤ hi ∧ (bsl g n lo hi = lo ∨ g (bsl g n lo hi) = true) ∧ (bsl g n lo hi = hi ∨ g (bsl g n lo hi + 1) = false)
  | 0, lo, hi, h, hn => by
    have : lo = hi := by simp at hn; omega
    subst this
    simp [bsl]
  | n + 1, lo, hi, h, hn => by
    rw [Int.pow_succ] at hn
    simp only [bsl]
    by_cases c : lo < hi
    · rw [if_pos c]
      cases hg : g (lo + (hi - lo + 1) / 2) with
      | true =>
        rw [if_pos rfl]
        obtain ⟨a1, a2, a3, a4⟩ := bsl_spec (g := g) n (lo + (hi - lo + 1) / 2) hi (by omega) (by omega)
        refine ⟨by omega, a2, .inr ?_, a4⟩
        rcases a3 with e | e
        · rw [e, hg]
        · exact e
      | false =>
        rw [if_neg (by decide)]
        obtain ⟨a1, a2, a3, a4⟩ := bsl_spec (g := g) n lo (lo + (hi - lo + 1) / 2 - 1) (by omega) (by omega)
        refine ⟨a1, by omega, a3, ?_⟩
        rcases a4 with e | e
        · right
          rw [e, show lo + (hi - lo + 1) / 2 - 1 + 1 = lo + (hi - lo + 1) / 2 by omega, hg]
        · exact .inr e
    · rw [if_neg c]
      have : lo = hi := by omega
      subst this
      simp
theorem bsh_spec {g : Int → Bool} : ∀ (n : Nat) (lo hi : Int), lo ≤ hi → hi - lo < 2 ^ n → lo ≤ bsh g n lo hi ∧ bsh g n lo hi ≤ hi ∧ (bsh g n lo hi = hi ∨ g (bsh g n lo hi) = true) ∧ (bsh g n lo hi = lo ∨ g (bsh g n lo hi - 1) = false)
  | 0, lo, hi, h, hn => by
    have : lo = hi := by simp at hn; omega
    subst this
    simp [bsh]
  | n + 1, lo, hi, h, hn => by
    rw [Int.pow_succ] at hn
    simp only [bsh]
    by_cases c : lo < hi
    · rw [if_pos c]
      cases hg : g (lo + (hi - lo) / 2) with
      | true =>
        rw [if_pos rfl]
        obtain ⟨a1, a2, a3, a4⟩ := bsh_spec (g := g) n lo (lo + (hi - lo) / 2) (by omega) (by omega)
        refine ⟨a1, by omega, .inr ?_, a4⟩
        rcases a3 with e | e
        · rw [e, hg]
        · exact e
      | false =>
        rw [if_neg (by decide)]
        obtain ⟨a1, a2, a3, a4⟩ := bsh_spec (g := g) n (lo + (hi - lo) / 2 + 1) hi (by omega) (by omega)
        refine ⟨by omega, a2, a3, ?_⟩
        rcases a4 with e | e
        · right
          rw [e, show lo + (hi - lo) / 2 + 1 - 1 = lo + (hi - lo) / 2 by omega, hg]
        · exact .inr e
    · rw [if_neg c]
      have : lo = hi := by omega
      subst this
      simp
theorem fLow_spec (f : Int → Sp) (p : Int) : -1048577 ≤ fLow f p ∧ fLow f p ≤ 1048576 ∧ (fLow f p = -1048577 ∨ (f (fLow f p)).2 ≤ p) ∧ (fLow f p = 1048576 ∨ p < (f (fLow f p + 1)).2) := by
  obtain ⟨a1, a2, a3, a4⟩ := bsl_spec (g := fun q => decide ((f q).2 ≤ p)) 22 (-1048577) 1048576 (by omega) (by decide)
  exact ⟨a1, a2, a3.imp id of_decide_eq_true, a4.imp id fun h => by have := of_decide_eq_false h; unfold fLow; omega⟩
theorem fHigh_spec (f : Int → Sp) (p : Int) : -1048576 ≤ fHigh f p ∧ fHigh f p ≤ 1048577 ∧ (fHigh f p = 1048577 ∨ p ≤ (f (fHigh f p)).1) ∧ (fHigh f p = -1048576 ∨ (f (fHigh f p - 1)).1 < p) := by
  obtain ⟨a1, a2, a3, a4⟩ := bsh_spec (g := fun q => decide ((f q).1 ≥ p)) 22 (-1048576) 1048577 (by omega) (by decide)
  exact ⟨a1, a2, a3.imp id of_decide_eq_true, a4.imp id fun h => by have := of_decide_eq_false h; unfold fHigh; omega⟩
/-- The least flow is at least what a test allows. -/
theorem le_fLow {f : Int → Sp} (hf : Ris f) {p q : Int} (h0 : q ≤ 1048576) (h : (f q).2 ≤ p) : q ≤ fLow f p := by
  obtain ⟨a1, a2, a3, a4⟩ := fLow_spec f p
  by_cases c : q ≤ fLow f p
  · exact c
  · have h4 := a4.resolve_left (by omega)
    by_cases e : fLow f p + 1 = q
    · rw [e] at h4; omega
    · have := hf.hi (fLow f p + 1) q (by omega); omega
theorem fHigh_le {f : Int → Sp} (hf : Ris f) {p q : Int} (h0 : -1048576 ≤ q) (h : p ≤ (f q).1) : fHigh f p ≤ q := by
  obtain ⟨a1, a2, a3, a4⟩ := fHigh_spec f p
  by_cases c : fHigh f p ≤ q
  · exact c
  · have h4 := a4.resolve_left (by omega)
    by_cases e : fHigh f p - 1 = q
    · rw [e] at h4; omega
    · have := hf.lo q (fHigh f p - 1) (by omega); omega
/-- The least flow is at most where a test fails. -/
theorem fLow_le {f : Int → Sp} (hf : Ris f) {p q : Int} (h0 : -1048577 ≤ q) (h : p ≤ (f q).2) : fLow f p ≤ q := by
  obtain ⟨a1, a2, a3, a4⟩ := fLow_spec f p
  by_cases c : fLow f p ≤ q
  · exact c
  · have h3 := a3.resolve_left (by omega)
    have := hf.hi q (fLow f p) (by omega); omega
theorem le_fHigh {f : Int → Sp} (hf : Ris f) {p q : Int} (h0 : q ≤ 1048577) (h : (f q).1 ≤ p) : q ≤ fHigh f p := by
  obtain ⟨a1, a2, a3, a4⟩ := fHigh_spec f p
  by_cases c : q ≤ fHigh f p
  · exact c
  · have h3 := a3.resolve_left (by omega)
    have := hf.lo (fHigh f p) q (by omega); omega
theorem fLow_le_fHigh {f : Int → Sp} (hf : Ris f) (p : Int) : fLow f p ≤ fHigh f p := by
  obtain ⟨a1, a2, a3, a4⟩ := fLow_spec f p
  obtain ⟨b1, b2, b3, b4⟩ := fHigh_spec f p
  rcases a3 with e | e
  · omega
  · exact le_fHigh hf (by omega) (by have := hf.le (fLow f p); omega)
/-- Where both ends lie within others', so do the flows. -/
theorem fLow_mono {f g : Int → Sp} (hg : Ris g) {p p' : Int} (h : ∀ q, -1048577 ≤ q → q ≤ 1048576 → (f q).2 ≤ p → (g q).2 ≤ p') : fLow f p ≤ fLow g p' := by
  obtain ⟨a1, a2, a3, a4⟩ := fLow_spec f p
  rcases a3 with e | e
  · have := (fLow_spec g p').1; omega
  · exact le_fLow hg a2 (h _ a1 a2 e)
theorem fHigh_mono {f g : Int → Sp} (hf : Ris f) {p p' : Int} (h : ∀ q, -1048576 ≤ q → q ≤ 1048577 → p' ≤ (g q).1 → p ≤ (f q).1) : fHigh f p ≤ fHigh g p' := by
  obtain ⟨a1, a2, a3, a4⟩ := fHigh_spec g p'
  rcases a3 with e | e
  · have := (fHigh_spec f p).2.1; omega
  · exact fHigh_le hf a1 (h _ a1 a2 e)
end Go.Vi.A
namespace Go.Vi.B
open Go.Vi.A
theorem drop_ris {pl : List Pl} {ro : List Ro} {fa : List Fa} {dr : List Do} (h : AirOk pl ro fa dr) (sf sd : List Int) (i : Int) {r : Ro} (hr : r ∈ ro) : Ris (drop (dr.zip sd) (fa.zip sf) i r) := by
  obtain ⟨r1, r2, r3⟩ := rOf_bd h sd i hr
  have hl := (h.road r hr).lift
  have hm := fun q q' (hq : q < q') => drp_mono (lift := r.2.2.2.2.2.2.2) r1 r2 hq (fsum_anti (sf := sf) (fun f hf => (h.fan f hf).1) i (show q ≤ q' by omega))
  refine ⟨fun q q' hq => (hm q q' hq).1, fun q q' hq => (hm q q' hq).2, fun q => ?_⟩
  have bf := fsum_bd h sf (fa.zip sf).length i q
  rw [List.take_of_length_le (Nat.le_refl _)] at bf
  have s0 : 0 ≤ q * q := by
    by_cases c : 0 ≤ q
    · exact Int.mul_nonneg c c
    · have := Int.mul_nonneg (show 0 ≤ -q by omega) (show 0 ≤ -q by omega); rwa [sq_neg] at this
  have m := Int.mul_le_mul_of_nonneg_right r2 s0
  unfold drop drp
  split <;> (simp only; omega)
end Go.Vi.B
/- (minecontrol/draught.Net).Low -/
namespace Go.Vi.B
open Go.Proofs
set_option linter.unusedVariables false
set_option maxRecDepth 100000
abbrev F34.i : Sh := [(0, .agg [.lst .frz 91 kd16, .lst .frz 23 (.ow 3 .i)]), (2, .one (.lst .frz 3 .i)), (4, .one .i)]
abbrev F34.o0 : Sh := [(0, .one .i)]
noncomputable def F34.l3 {β : Type} (N : Nat) : Nat → (List Int) → Int → (List (Ro × (Int × (List (Fa × Int))))) → (List (Option (List Int))) → Int → Int → (List Int) → Int → Int → (List Int → Int → (List (Ro × (Int × (List (Fa × Int))))) → (List (Option (List Int))) → Int → Int → List Int → Int → Int → Bool → Option β) → Option β
 | 0, _, _, _, _, _, _, _, _, _, _ => none
 | n + 1, v0, v1, v2, v3, v4, v5, v6, v7, v8, k0 =>
  bl (v8 < v7) (k0 v0 v1 v2 v3 v4 v5 v6 v7 v8 (decide (v8 < v7))) <|
  ck (0 ≤ v8) <|
  ge (v6[v8.toNat]?) fun x1 =>
  ck (0 ≤ x1) <|
  ge (v2[x1.toNat]?) fun x2 =>
  ck (0 ≤ x2.1.1) <|
  ge (v0[x2.1.1.toNat]?) fun x3 =>
  ck (0 ≤ x2.1.2.1) <|
  ge (v0[x2.1.2.1.toNat]?) fun x4 =>
  br (x2.1.1 = v1) (
   F42.C N x2.1.1 x2.1.2.1 x2.1.2.2.1 x2.1.2.2.2.1 x2.1.2.2.2.2.1 x2.1.2.2.2.2.2.1 x2.1.2.2.2.2.2.2.1.1 x2.1.2.2.2.2.2.2.1.2 x2.1.2.2.2.2.2.2.2.1 x2.1.2.2.2.2.2.2.2.2 x2.2.1 x2.2.2 (w (x3 - x4)) fun r5 =>
   F34.l3 N n v0 v1 v2 v3 v4 (w (v5 + r5)) v6 v7 (w (v8 + 1)) k0) <|
  F43.C N x2.1.1 x2.1.2.1 x2.1.2.2.1 x2.1.2.2.2.1 x2.1.2.2.2.2.1 x2.1.2.2.2.2.2.1 x2.1.2.2.2.2.2.2.1.1 x2.1.2.2.2.2.2.2.1.2 x2.1.2.2.2.2.2.2.2.1 x2.1.2.2.2.2.2.2.2.2 x2.2.1 x2.2.2 (w (x3 - x4)) fun r6 =>
  F34.l3 N n v0 v1 v2 v3 v4 (w (v5 - r6)) v6 v7 (w (v8 + 1)) k0
noncomputable def F34.K {β : Type} (N : Nat) (a0 : List (Ro × (Int × (List (Fa × Int))))) (a1 : List (Option (List Int))) (a2 : List Int) (a3 : Int) (k0 : Int → Option β) : Option β :=
 ck (0 ≤ a3) <|
 ge (a1[a3.toNat]?) fun x1 =>
 ge (x1) fun ys2 =>
 F34.l3 N N a2 a3 a0 a1 0 0 ys2 (ys2.length : Int) 0 fun _ _ _ _ _ z12 _ _ _ _ =>
 k0 z12
noncomputable def F34.fx : Fx := ⟨Try.prog, [], [], [(0,[1,2,3,6]),(1,[1,2,3,6,7]),(2,[1,2,3,6,7,16,17,18]),(3,[1,2,3,6,7,16,17,18,19]),(4,[1,2,3,6,7,9,16,17,18]),(5,[1,2,3,6,7,10,16,17,18]),(6,[1,2,3,6,7,10,11,16,17,18]),(7,[1,2,3,6,7,10,11,16,17,18,44]),(8,[1,2,3,6,7,16,17,18]),(9,[1,2,3,6,7,16,17,18]),(10,[1,2,3,6,7,16,17,18]),(11,[6])], 57, []⟩
noncomputable def F34.cs (N : Nat) : List (Ctr Try.prog) := [F42.X N, F43.X N]
abbrev F34.s3 : Sh := [(2, .one (.lst .frz 3 .i)), (4, .one .i), (6, .one (.addr 3 0)), (7, .slot false [.lst .frz 91 kd16, .lst .frz 23 (.ow 3 .i)]), (12, .one .i), (14, .one .i), (32, .one (.lst .frz 3 .i)), (34, .one .i), (36, .one .i)]
abbrev F34.e3_0 : Sh := [(2, .one (.lst .frz 3 .i)), (4, .one .i), (6, .one (.addr 3 0)), (7, .slot false [.lst .frz 91 kd16, .lst .frz 23 (.ow 3 .i)]), (12, .one .i), (14, .one .i), (32, .one (.lst .frz 3 .i)), (34, .one .i), (36, .one .i), (38, .one .bool)]
noncomputable def F34.X3 (N : Nat) : LpC Try.prog F34.fx := mkL (F34.cs N) [] ((loopsOf (bodyOf Try.f34)).getD 0 .skip) 3 [1,2,3,6,7,16,17,18] (by kernel_rfl) (by kernel_rfl) (by kernel_rfl) F34.s3 (fun n x k => F34.l3 N n x.1 x.2.1 x.2.2.1 x.2.2.2.1 x.2.2.2.2.1 x.2.2.2.2.2.1 x.2.2.2.2.2.2.1 x.2.2.2.2.2.2.2.1 x.2.2.2.2.2.2.2.2.1 (fun r0 r1 r2 r3 r4 r5 r6 r7 r8 r9 => k (.exit 0) (Sh.mk F34.e3_0 (r0, r1, r2, r3, r4, r5, r6, r7, r8, r9, ())))) (fun _ _ => rfl) (fun _ _ _ => by kernel_rfl) N
noncomputable def F34.C {β : Type} (N : Nat) := (Sealed fun β => @F34.K β).1 β N
theorem F34.C_eq {β : Type} (N : Nat) : @F34.C β N = @F34.K β N := congrFun (congrFun (Sealed fun β => @F34.K β).2 β) N
noncomputable def F34.X (N : Nat) : Ctr Try.prog := mkF 34 Try.f34 F34.fx (F34.cs N) [F34.X3 N] F34.i (fun x k => F34.C N x.1 x.2.1 x.2.2.1 x.2.2.2.1 (fun r0 => k (Sh.mk F34.o0 (r0, ())))) (by intros; rw [F34.C_eq]; kernel_rfl) (by kernel_rfl) (by kernel_rfl) (by kernel_rfl) (by kernel_rfl) rfl (by kernel_rfl) rfl (by kernel_rfl) (by kernel_rfl) (by kernel_rfl) (.dead _ 34) rfl
end Go.Vi.B
/- (minecontrol/draught.Net).High -/
namespace Go.Vi.B
open Go.Proofs
set_option linter.unusedVariables false
set_option maxRecDepth 100000
abbrev F35.i : Sh := [(0, .agg [.lst .frz 91 kd16, .lst .frz 23 (.ow 3 .i)]), (2, .one (.lst .frz 3 .i)), (4, .one .i)]
abbrev F35.o0 : Sh := [(0, .one .i)]
noncomputable def F35.l3 {β : Type} (N : Nat) : Nat → (List Int) → Int → (List (Ro × (Int × (List (Fa × Int))))) → (List (Option (List Int))) → Int → Int → (List Int) → Int → Int → (List Int → Int → (List (Ro × (Int × (List (Fa × Int))))) → (List (Option (List Int))) → Int → Int → List Int → Int → Int → Bool → Option β) → Option β
 | 0, _, _, _, _, _, _, _, _, _, _ => none
 | n + 1, v0, v1, v2, v3, v4, v5, v6, v7, v8, k0 =>
  bl (v8 < v7) (k0 v0 v1 v2 v3 v4 v5 v6 v7 v8 (decide (v8 < v7))) <|
  ck (0 ≤ v8) <|
  ge (v6[v8.toNat]?) fun x1 =>
  ck (0 ≤ x1) <|
  ge (v2[x1.toNat]?) fun x2 =>
  ck (0 ≤ x2.1.1) <|
  ge (v0[x2.1.1.toNat]?) fun x3 =>
  ck (0 ≤ x2.1.2.1) <|
  ge (v0[x2.1.2.1.toNat]?) fun x4 =>
  br (x2.1.1 = v1) (
   F43.C N x2.1.1 x2.1.2.1 x2.1.2.2.1 x2.1.2.2.2.1 x2.1.2.2.2.2.1 x2.1.2.2.2.2.2.1 x2.1.2.2.2.2.2.2.1.1 x2.1.2.2.2.2.2.2.1.2 x2.1.2.2.2.2.2.2.2.1 x2.1.2.2.2.2.2.2.2.2 x2.2.1 x2.2.2 (w (x3 - x4)) fun r5 =>
   F35.l3 N n v0 v1 v2 v3 v4 (w (v5 + r5)) v6 v7 (w (v8 + 1)) k0) <|
  F42.C N x2.1.1 x2.1.2.1 x2.1.2.2.1 x2.1.2.2.2.1 x2.1.2.2.2.2.1 x2.1.2.2.2.2.2.1 x2.1.2.2.2.2.2.2.1.1 x2.1.2.2.2.2.2.2.1.2 x2.1.2.2.2.2.2.2.2.1 x2.1.2.2.2.2.2.2.2.2 x2.2.1 x2.2.2 (w (x3 - x4)) fun r6 =>
  F35.l3 N n v0 v1 v2 v3 v4 (w (v5 - r6)) v6 v7 (w (v8 + 1)) k0
noncomputable def F35.K {β : Type} (N : Nat) (a0 : List (Ro × (Int × (List (Fa × Int))))) (a1 : List (Option (List Int))) (a2 : List Int) (a3 : Int) (k0 : Int → Option β) : Option β :=
 ck (0 ≤ a3) <|
 ge (a1[a3.toNat]?) fun x1 =>
 ge (x1) fun ys2 =>
 F35.l3 N N a2 a3 a0 a1 0 0 ys2 (ys2.length : Int) 0 fun _ _ _ _ _ z12 _ _ _ _ =>
 k0 z12
noncomputable def F35.fx : Fx := ⟨Try.prog, [], [], [(0,[1,2,3,6]),(1,[1,2,3,6,7]),(2,[1,2,3,6,7,16,17,18]),(3,[1,2,3,6,7,16,17,18,19]),(4,[1,2,3,6,7,9,16,17,18]),(5,[1,2,3,6,7,10,16,17,18]),(6,[1,2,3,6,7,10,11,16,17,18]),(7,[1,2,3,6,7,10,11,16,17,18,44]),(8,[1,2,3,6,7,16,17,18]),(9,[1,2,3,6,7,16,17,18]),(10,[1,2,3,6,7,16,17,18]),(11,[6])], 57, []⟩
noncomputable def F35.cs (N : Nat) : List (Ctr Try.prog) := [F43.X N, F42.X N]
abbrev F35.s3 : Sh := [(2, .one (.lst .frz 3 .i)), (4, .one .i), (6, .one (.addr 3 0)), (7, .slot false [.lst .frz 91 kd16, .lst .frz 23 (.ow 3 .i)]), (12, .one .i), (14, .one .i), (32, .one (.lst .frz 3 .i)), (34, .one .i), (36, .one .i)]
abbrev F35.e3_0 : Sh := [(2, .one (.lst .frz 3 .i)), (4, .one .i), (6, .one (.addr 3 0)), (7, .slot false [.lst .frz 91 kd16, .lst .frz 23 (.ow 3 .i)]), (12, .one .i), (14, .one .i), (32, .one (.lst .frz 3 .i)), (34, .one .i), (36, .one .i), (38, .one .bool)]
noncomputable def F35.X3 (N : Nat) : LpC Try.prog F35.fx := mkL (F35.cs N) [] ((loopsOf (bodyOf Try.f35)).getD 0 .skip) 3 [1,2,3,6,7,16,17,18] (by kernel_rfl) (by kernel_rfl) (by kernel_rfl) F35.s3 (fun n x k => F35.l3 N n x.1 x.2.1 x.2.2.1 x.2.2.2.1 x.2.2.2.2.1 x.2.2.2.2.2.1 x.2.2.2.2.2.2.1 x.2.2.2.2.2.2.2.1 x.2.2.2.2.2.2.2.2.1 (fun r0 r1 r2 r3 r4 r5 r6 r7 r8 r9 => k (.exit 0) (Sh.mk F35.e3_0 (r0, r1, r2, r3, r4, r5, r6, r7, r8, r9, ())))) (fun _ _ => rfl) (fun _ _ _ => by kernel_rfl) N
noncomputable def F35.C {β : Type} (N : Nat) := (Sealed fun β => @F35.K β).1 β N
theorem F35.C_eq {β : Type} (N : Nat) : @F35.C β N = @F35.K β N := congrFun (congrFun (Sealed fun β => @F35.K β).2 β) N
noncomputable def F35.X (N : Nat) : Ctr Try.prog := mkF 35 Try.f35 F35.fx (F35.cs N) [F35.X3 N] F35.i (fun x k => F35.C N x.1 x.2.1 x.2.2.1 x.2.2.2.1 (fun r0 => k (Sh.mk F35.o0 (r0, ())))) (by intros; rw [F35.C_eq]; kernel_rfl) (by kernel_rfl) (by kernel_rfl) (by kernel_rfl) (by kernel_rfl) rfl (by kernel_rfl) rfl (by kernel_rfl) (by kernel_rfl) (by kernel_rfl) (.dead _ 35) rfl
end Go.Vi.B
/- minecontrol/minecontrolref10.Lowest -/
namespace Go.Vi.B
open Go.Proofs
set_option linter.unusedVariables false
set_option maxRecDepth 100000
abbrev F40.i : Sh := [(0, .agg [.lst .frz 62 kd1, .lst .frz 71 kd8, .lst .frz 100 kd11, .lst .frz 55 kd13]), (2, .agg [.lst .frz 3 .i, .lst .frz 3 .i]), (4, .one (.lst .frz 3 .i)), (6, .one .i)]
abbrev F40.o0 : Sh := [(0, .one .i)]
noncomputable def F40.l3 {β : Type} (N : Nat) : Nat → (List Int) → Int → (List Pl) → (List Ro) → (List Fa) → (List Do) → (List Int) → (List Int) → Int → Int → Int → (List Int → Int → List Pl → List Ro → List Fa → List Do → List Int → List Int → Int → Int → Int → Bool → Option β) → Option β
 | 0, _, _, _, _, _, _, _, _, _, _, _, _ => none
 | n + 1, v0, v1, v2, v3, v4, v5, v6, v7, v8, v9, v10, k0 =>
  bl (v10 < (v3.length : Int)) (k0 v0 v1 v2 v3 v4 v5 v6 v7 v8 v9 v10 (decide (v10 < (v3.length : Int)))) <|
  ck (0 ≤ v10) <|
  ge (v3[v10.toNat]?) fun x1 =>
  br (x1.2.2.2.2.2.1) (F40.l3 N n v0 v1 v2 v3 v4 v5 v6 v7 v8 v9 (w (v10 + 1)) k0) <|
  bl (x1.1 = v1) (
   bl (x1.2.1 = v1) (F40.l3 N n v0 v1 v2 v3 v4 v5 v6 v7 v8 v9 (w (v10 + 1)) k0) <|
   ck (0 ≤ x1.1) <|
   ge (v0[x1.1.toNat]?) fun x8 =>
   ck (0 ≤ x1.2.1) <|
   ge (v0[x1.2.1.toNat]?) fun x9 =>
   F46.C N v2 v3 v4 v5 v6 v7 v10 (w (x8 - x9)) fun r10 =>
   F40.l3 N n v0 v1 v2 v3 v4 v5 v6 v7 v8 (w (v9 - r10)) (w (v10 + 1)) k0) <|
  ck (0 ≤ x1.1) <|
  ge (v0[x1.1.toNat]?) fun x2 =>
  ck (0 ≤ x1.2.1) <|
  ge (v0[x1.2.1.toNat]?) fun x3 =>
  F45.C N v2 v3 v4 v5 v6 v7 v10 (w (x2 - x3)) fun r4 =>
  bl (x1.2.1 = v1) (F40.l3 N n v0 v1 v2 v3 v4 v5 v6 v7 v8 (w (v9 + r4)) (w (v10 + 1)) k0) <|
  ck (0 ≤ x1.1) <|
  ge (v0[x1.1.toNat]?) fun x5 =>
  ck (0 ≤ x1.2.1) <|
  ge (v0[x1.2.1.toNat]?) fun x6 =>
  F46.C N v2 v3 v4 v5 v6 v7 v10 (w (x5 - x6)) fun r7 =>
  F40.l3 N n v0 v1 v2 v3 v4 v5 v6 v7 v8 (w ((w (v9 + r4)) - r7)) (w (v10 + 1)) k0
noncomputable def F40.K {β : Type} (N : Nat) (a0 : List Pl) (a1 : List Ro) (a2 : List Fa) (a3 : List Do) (a4 a5 a6 : List Int) (a7 : Int) (k0 : Int → Option β) : Option β :=
 F40.l3 N N a6 a7 a0 a1 a2 a3 a4 a5 0 0 0 fun _ _ _ _ _ _ _ _ _ z20 _ _ =>
 k0 z20
noncomputable def F40.fx : Fx := ⟨Try.prog, [], [], [(0,[2,3,4,5,8]),(1,[2,3,4,5,8,9]),(2,[2,3,4,5,8,9,10]),(3,[2,3,4,5,8,9,10,17]),(4,[2,3,4,5,8,9,10]),(5,[2,3,4,5,8,9,10,11]),(6,[2,3,4,5,8,9,10,11,27]),(7,[2,3,4,5,8,9,10,11,31]),(8,[2,3,4,5,8,9,10,11]),(9,[2,3,4,5,8,9,10,11,52]),(10,[2,3,4,5,8,9,10]),(11,[8])], 71, []⟩
noncomputable def F40.cs (N : Nat) : List (Ctr Try.prog) := [F45.X N, F46.X N]
abbrev F40.s3 : Sh := [(4, .one (.lst .frz 3 .i)), (6, .one .i), (8, .one (.addr 4 0)), (9, .slot false [.lst .frz 62 kd1, .lst .frz 71 kd8, .lst .frz 100 kd11, .lst .frz 55 kd13]), (10, .one (.addr 5 0)), (11, .slot false [.lst .frz 3 .i, .lst .frz 3 .i]), (16, .one .i), (18, .one .i), (20, .one .i)]
abbrev F40.e3_0 : Sh := [(4, .one (.lst .frz 3 .i)), (6, .one .i), (8, .one (.addr 4 0)), (9, .slot false [.lst .frz 62 kd1, .lst .frz 71 kd8, .lst .frz 100 kd11, .lst .frz 55 kd13]), (10, .one (.addr 5 0)), (11, .slot false [.lst .frz 3 .i, .lst .frz 3 .i]), (16, .one .i), (18, .one .i), (20, .one .i), (34, .one .bool)]
noncomputable def F40.X3 (N : Nat) : LpC Try.prog F40.fx := mkL (F40.cs N) [] ((loopsOf (bodyOf Try.f40)).getD 0 .skip) 3 [2,3,4,5,8,9,10] (by kernel_rfl) (by kernel_rfl) (by kernel_rfl) F40.s3 (fun n x k => F40.l3 N n x.1 x.2.1 x.2.2.1 x.2.2.2.1 x.2.2.2.2.1 x.2.2.2.2.2.1 x.2.2.2.2.2.2.1 x.2.2.2.2.2.2.2.1 x.2.2.2.2.2.2.2.2.1 x.2.2.2.2.2.2.2.2.2.1 x.2.2.2.2.2.2.2.2.2.2.1 (fun r0 r1 r2 r3 r4 r5 r6 r7 r8 r9 r10 r11 => k (.exit 0) (Sh.mk F40.e3_0 (r0, r1, r2, r3, r4, r5, r6, r7, r8, r9, r10, r11, ())))) (fun _ _ => rfl) (fun _ _ _ => by kernel_rfl) N
noncomputable def F40.C {β : Type} (N : Nat) := (Sealed fun β => @F40.K β).1 β N
theorem F40.C_eq {β : Type} (N : Nat) : @F40.C β N = @F40.K β N := congrFun (congrFun (Sealed fun β => @F40.K β).2 β) N
noncomputable def F40.X (N : Nat) : Ctr Try.prog := mkF 40 Try.f40 F40.fx (F40.cs N) [F40.X3 N] F40.i (fun x k => F40.C N x.1 x.2.1 x.2.2.1 x.2.2.2.1 x.2.2.2.2.1 x.2.2.2.2.2.1 x.2.2.2.2.2.2.1 x.2.2.2.2.2.2.2.1 (fun r0 => k (Sh.mk F40.o0 (r0, ())))) (by intros; rw [F40.C_eq]; kernel_rfl) (by kernel_rfl) (by kernel_rfl) (by kernel_rfl) (by kernel_rfl) rfl (by kernel_rfl) rfl (by kernel_rfl) (by kernel_rfl) (by kernel_rfl) (.dead _ 40) rfl
end Go.Vi.B
/- minecontrol/minecontrolref10.Highest -/
namespace Go.Vi.B
open Go.Proofs
set_option linter.unusedVariables false
set_option maxRecDepth 100000
abbrev F41.i : Sh := [(0, .agg [.lst .frz 62 kd1, .lst .frz 71 kd8, .lst .frz 100 kd11, .lst .frz 55 kd13]), (2, .agg [.lst .frz 3 .i, .lst .frz 3 .i]), (4, .one (.lst .frz 3 .i)), (6, .one .i)]
abbrev F41.o0 : Sh := [(0, .one .i)]
noncomputable def F41.l3 {β : Type} (N : Nat) : Nat → (List Int) → Int → (List Pl) → (List Ro) → (List Fa) → (List Do) → (List Int) → (List Int) → Int → Int → Int → (List Int → Int → List Pl → List Ro → List Fa → List Do → List Int → List Int → Int → Int → Int → Bool → Option β) → Option β
 | 0, _, _, _, _, _, _, _, _, _, _, _, _ => none
 | n + 1, v0, v1, v2, v3, v4, v5, v6, v7, v8, v9, v10, k0 =>
  bl (v10 < (v3.length : Int)) (k0 v0 v1 v2 v3 v4 v5 v6 v7 v8 v9 v10 (decide (v10 < (v3.length : Int)))) <|
  ck (0 ≤ v10) <|
  ge (v3[v10.toNat]?) fun x1 =>
  br (x1.2.2.2.2.2.1) (F41.l3 N n v0 v1 v2 v3 v4 v5 v6 v7 v8 v9 (w (v10 + 1)) k0) <|
  bl (x1.1 = v1) (
   bl (x1.2.1 = v1) (F41.l3 N n v0 v1 v2 v3 v4 v5 v6 v7 v8 v9 (w (v10 + 1)) k0) <|
   ck (0 ≤ x1.1) <|
   ge (v0[x1.1.toNat]?) fun x8 =>
   ck (0 ≤ x1.2.1) <|
   ge (v0[x1.2.1.toNat]?) fun x9 =>
   F45.C N v2 v3 v4 v5 v6 v7 v10 (w (x8 - x9)) fun r10 =>
   F41.l3 N n v0 v1 v2 v3 v4 v5 v6 v7 v8 (w (v9 - r10)) (w (v10 + 1)) k0) <|
  ck (0 ≤ x1.1) <|
  ge (v0[x1.1.toNat]?) fun x2 =>
  ck (0 ≤ x1.2.1) <|
  ge (v0[x1.2.1.toNat]?) fun x3 =>
  F46.C N v2 v3 v4 v5 v6 v7 v10 (w (x2 - x3)) fun r4 =>
  bl (x1.2.1 = v1) (F41.l3 N n v0 v1 v2 v3 v4 v5 v6 v7 v8 (w (v9 + r4)) (w (v10 + 1)) k0) <|
  ck (0 ≤ x1.1) <|
  ge (v0[x1.1.toNat]?) fun x5 =>
  ck (0 ≤ x1.2.1) <|
  ge (v0[x1.2.1.toNat]?) fun x6 =>
  F45.C N v2 v3 v4 v5 v6 v7 v10 (w (x5 - x6)) fun r7 =>
  F41.l3 N n v0 v1 v2 v3 v4 v5 v6 v7 v8 (w ((w (v9 + r4)) - r7)) (w (v10 + 1)) k0
noncomputable def F41.K {β : Type} (N : Nat) (a0 : List Pl) (a1 : List Ro) (a2 : List Fa) (a3 : List Do) (a4 a5 a6 : List Int) (a7 : Int) (k0 : Int → Option β) : Option β :=
 F41.l3 N N a6 a7 a0 a1 a2 a3 a4 a5 0 0 0 fun _ _ _ _ _ _ _ _ _ z20 _ _ =>
 k0 z20
noncomputable def F41.fx : Fx := ⟨Try.prog, [], [], [(0,[2,3,4,5,8]),(1,[2,3,4,5,8,9]),(2,[2,3,4,5,8,9,10]),(3,[2,3,4,5,8,9,10,17]),(4,[2,3,4,5,8,9,10]),(5,[2,3,4,5,8,9,10,11]),(6,[2,3,4,5,8,9,10,11,27]),(7,[2,3,4,5,8,9,10,11,31]),(8,[2,3,4,5,8,9,10,11]),(9,[2,3,4,5,8,9,10,11,52]),(10,[2,3,4,5,8,9,10]),(11,[8])], 71, []⟩
noncomputable def F41.cs (N : Nat) : List (Ctr Try.prog) := [F46.X N, F45.X N]
abbrev F41.s3 : Sh := [(4, .one (.lst .frz 3 .i)), (6, .one .i), (8, .one (.addr 4 0)), (9, .slot false [.lst .frz 62 kd1, .lst .frz 71 kd8, .lst .frz 100 kd11, .lst .frz 55 kd13]), (10, .one (.addr 5 0)), (11, .slot false [.lst .frz 3 .i, .lst .frz 3 .i]), (16, .one .i), (18, .one .i), (20, .one .i)]
abbrev F41.e3_0 : Sh := [(4, .one (.lst .frz 3 .i)), (6, .one .i), (8, .one (.addr 4 0)), (9, .slot false [.lst .frz 62 kd1, .lst .frz 71 kd8, .lst .frz 100 kd11, .lst .frz 55 kd13]), (10, .one (.addr 5 0)), (11, .slot false [.lst .frz 3 .i, .lst .frz 3 .i]), (16, .one .i), (18, .one .i), (20, .one .i), (34, .one .bool)]
noncomputable def F41.X3 (N : Nat) : LpC Try.prog F41.fx := mkL (F41.cs N) [] ((loopsOf (bodyOf Try.f41)).getD 0 .skip) 3 [2,3,4,5,8,9,10] (by kernel_rfl) (by kernel_rfl) (by kernel_rfl) F41.s3 (fun n x k => F41.l3 N n x.1 x.2.1 x.2.2.1 x.2.2.2.1 x.2.2.2.2.1 x.2.2.2.2.2.1 x.2.2.2.2.2.2.1 x.2.2.2.2.2.2.2.1 x.2.2.2.2.2.2.2.2.1 x.2.2.2.2.2.2.2.2.2.1 x.2.2.2.2.2.2.2.2.2.2.1 (fun r0 r1 r2 r3 r4 r5 r6 r7 r8 r9 r10 r11 => k (.exit 0) (Sh.mk F41.e3_0 (r0, r1, r2, r3, r4, r5, r6, r7, r8, r9, r10, r11, ())))) (fun _ _ => rfl) (fun _ _ _ => by kernel_rfl) N
noncomputable def F41.C {β : Type} (N : Nat) := (Sealed fun β => @F41.K β).1 β N
theorem F41.C_eq {β : Type} (N : Nat) : @F41.C β N = @F41.K β N := congrFun (congrFun (Sealed fun β => @F41.K β).2 β) N
noncomputable def F41.X (N : Nat) : Ctr Try.prog := mkF 41 Try.f41 F41.fx (F41.cs N) [F41.X3 N] F41.i (fun x k => F41.C N x.1 x.2.1 x.2.2.1 x.2.2.2.1 x.2.2.2.2.1 x.2.2.2.2.2.1 x.2.2.2.2.2.2.1 x.2.2.2.2.2.2.2.1 (fun r0 => k (Sh.mk F41.o0 (r0, ())))) (by intros; rw [F41.C_eq]; kernel_rfl) (by kernel_rfl) (by kernel_rfl) (by kernel_rfl) (by kernel_rfl) rfl (by kernel_rfl) rfl (by kernel_rfl) (by kernel_rfl) (by kernel_rfl) (.dead _ 41) rfl
end Go.Vi.B
/- What leaves a place: the program and its reference compute the same. -/
namespace Go.Vi.A
set_option linter.unusedVariables false
def dOf (ps : List Int) (r : Ro) : Int := ps.getD r.1.toNat 0 - ps.getD r.2.1.toNat 0
/-- What one road brings to the least that leaves a place. -/
def lowT (dz : DS) (fz : FS) (ps : List Int) (p : Int) (i : Nat) (r : Ro) : Int :=
  if r.2.2.2.2.2.1 = true then 0 else (if r.1 = p then fLow (drop dz fz i r) (dOf ps r) else 0) - (if r.2.1 = p then fHigh (drop dz fz i r) (dOf ps r) else 0)
def highT (dz : DS) (fz : FS) (ps : List Int) (p : Int) (i : Nat) (r : Ro) : Int :=
  if r.2.2.2.2.2.1 = true then 0 else (if r.1 = p then fHigh (drop dz fz i r) (dOf ps r) else 0) - (if r.2.1 = p then fLow (drop dz fz i r) (dOf ps r) else 0)
/-- A sum over a list with its indexes. -/
def sumI {α : Type} (f : Nat → α → Int) : Nat → List α → Int
  | _, [] => 0
  | i, x :: t => f i x + sumI f (i + 1) t
theorem sumI_append {α : Type} (f : Nat → α → Int) : ∀ (a b : List α) (i : Nat), sumI f i (a ++ b) = sumI f i a + sumI f (i + a.length) b
  | [], b, i => by simp [sumI]
  | x :: t, b, i => by
    simp only [List.cons_append, sumI, sumI_append f t b (i + 1), List.length_cons, show i + 1 + t.length = i + (t.length + 1) by omega]; omega
theorem sumI_take {α : Type} (f : Nat → α → Int) {l : List α} {j : Nat} {x : α} (h : l[j]? = some x) : sumI f 0 (l.take (j + 1)) = sumI f 0 (l.take j) + f j x := by
  rw [take_snoc h, sumI_append]
  have := idx h
  simp only [sumI, List.length_take, Nat.zero_add, show min j l.length = j by omega]; omega
theorem sumI_bd {α : Type} {f : Nat → α → Int} {M : Int} (hM : 0 ≤ M) (hf : ∀ i x, -M ≤ f i x ∧ f i x ≤ M) : ∀ (l : List α) (n i : Nat), l.length ≤ n → -(M * n) ≤ sumI f i l ∧ sumI f i l ≤ M * n
  | [], n, i, _ => by
    have := Int.mul_nonneg hM (show (0 : Int) ≤ n by omega)
    simp only [sumI]; omega
  | x :: t, 0, i, h => by simp at h
  | x :: t, n + 1, i, h => by
    have ih := sumI_bd hM hf t n (i + 1) (by simp at h; omega)
    have hx := hf i x
    have e : M * ((n + 1 : Nat) : Int) = M * n + M := by rw [Int.natCast_add, Int.mul_add]; simp
    rw [e]; simp only [sumI]; omega
theorem fl_rng (f : Int → Sp) (p : Int) : -1048577 ≤ fLow f p ∧ fLow f p ≤ 1048577 ∧ -1048577 ≤ fHigh f p ∧ fHigh f p ≤ 1048577 := by
  have := fLow_spec f p; have := fHigh_spec f p; omega
theorem lowT_bd (dz : DS) (fz : FS) (ps : List Int) (p : Int) (i : Nat) (r : Ro) : -2097154 ≤ lowT dz fz ps p i r ∧ lowT dz fz ps p i r ≤ 2097154 := by
  have := fl_rng (drop dz fz i r) (dOf ps r)
  unfold lowT; repeat' split
  all_goals omega
theorem highT_bd (dz : DS) (fz : FS) (ps : List Int) (p : Int) (i : Nat) (r : Ro) : -2097154 ≤ highT dz fz ps p i r ∧ highT dz fz ps p i r ≤ 2097154 := by
  have := fl_rng (drop dz fz i r) (dOf ps r)
  unfold highT; repeat' split
  all_goals omega
def lowP (dz : DS) (fz : FS) (ro : List Ro) (ps : List Int) (p : Int) : Int := sumI (lowT dz fz ps p) 0 ro
def highP (dz : DS) (fz : FS) (ro : List Ro) (ps : List Int) (p : Int) : Int := sumI (highT dz fz ps p) 0 ro
theorem low_rng (dz : DS) (fz : FS) {ro : List Ro} (hn : ro.length ≤ 128) (ps : List Int) (p : Int) (j : Nat) : -268435712 ≤ sumI (lowT dz fz ps p) 0 (ro.take j) ∧ sumI (lowT dz fz ps p) 0 (ro.take j) ≤ 268435712 := by
  have := sumI_bd (M := 2097154) (by omega) (lowT_bd dz fz ps p) (ro.take j) 128 0 (by rw [List.length_take]; omega); omega
theorem high_rng (dz : DS) (fz : FS) {ro : List Ro} (hn : ro.length ≤ 128) (ps : List Int) (p : Int) (j : Nat) : -268435712 ≤ sumI (highT dz fz ps p) 0 (ro.take j) ∧ sumI (highT dz fz ps p) 0 (ro.take j) ≤ 268435712 := by
  have := sumI_bd (M := 2097154) (by omega) (highT_bd dz fz ps p) (ro.take j) 128 0 (by rw [List.length_take]; omega); omega
/-- What a pipe brings. -/
def lowX (ps : List Int) (p : Int) (x : Pi) : Int := if x.1.1 = p then fLow (pdrop x) (dOf ps x.1) else -fHigh (pdrop x) (dOf ps x.1)
def highX (ps : List Int) (p : Int) (x : Pi) : Int := if x.1.1 = p then fHigh (pdrop x) (dOf ps x.1) else -fLow (pdrop x) (dOf ps x.1)
def sumK (g : Pi → Int) (G : List Pi) (ks : List Int) : Int := sumI (fun _ k => match G[k.toNat]? with | some x => g x | none => 0) 0 ks
theorem sumI_const {α : Type} (f : α → Int) : ∀ (l : List α) (i j : Nat), sumI (fun _ x => f x) i l = sumI (fun _ x => f x) j l
  | [], _, _ => rfl
  | x :: t, i, j => by simp only [sumI, sumI_const f t (i + 1) (j + 1)]
theorem at_sum {dz : DS} {fz : FS} {p : Int} {g : Pi → Int} {t : Nat → Ro → Int} (hg : ∀ i r, r.1 ≠ r.2.1 → r.2.2.2.2.2.1 = false → t i r = if r.1 = p ∨ r.2.1 = p then g (pOf dz fz i r) else 0) (h0 : ∀ i r, r.2.2.2.2.2.1 = true → t i r = 0) :
    ∀ (l : List Ro) (i k : Nat) (G : List Pi), (∀ r ∈ l, r.1 ≠ r.2.1) → (∀ m, G[k + m]? = (pipesF dz fz i l)[m]?) → sumK g G (atF p k (pipesF dz fz i l)) = sumI t i l
  | [], _, _, _, _, _ => rfl
  | r :: l, i, k, G, hr, hG => by
    have hr' := hr r List.mem_cons_self
    have hl := fun x hx => hr x (List.mem_cons_of_mem _ hx)
    simp only [pipesF] at hG ⊢
    cases hc : r.2.2.2.2.2.1 with
    | true =>
      simp only [hc, if_true] at hG ⊢
      rw [at_sum hg h0 l (i + 1) k G hl hG]
      simp only [sumI, h0 i r hc, Int.zero_add]
    | false =>
      simp only [hc, Bool.false_eq_true, if_false] at hG ⊢
      have ih := at_sum hg h0 l (i + 1) (k + 1) G hl (fun m => by
        have := hG (m + 1)
        rw [show k + 1 + m = k + (m + 1) by omega, this]; simp)
      have h1 : G[k]? = some (pOf dz fz i r) := by simpa using hG 0
      simp only [atF, sumI, hg i r hr' hc]
      have e1 : (pOf dz fz i r).1.1 = r.1 := rfl
      have e2 : (pOf dz fz i r).1.2.1 = r.2.1 := rfl
      rw [e1, e2]
      by_cases c : r.1 = p ∨ r.2.1 = p
      · rw [if_pos c, if_pos c]
        unfold sumK at ih ⊢
        simp only [sumI, Int.toNat_natCast, h1]
        rw [sumI_const (fun k : Int => match G[k.toNat]? with | some x => g x | none => 0) _ (0 + 1) 0, ih]
      · rw [if_neg c, if_neg c, Int.zero_add]; exact ih
theorem atF_mem {p : Int} : ∀ {P : List Pi} {k : Nat} {x : Int}, x ∈ atF p k P → ∃ m : Nat, x = ((k + m : Nat) : Int) ∧ m < P.length
  | [], _, _, h => by cases h
  | y :: t, k, x, h => by
    simp only [atF] at h
    have go : x ∈ atF p (k + 1) t → ∃ m : Nat, x = ((k + m : Nat) : Int) ∧ m < (y :: t).length := fun h => by
      obtain ⟨m, h1, h2⟩ := atF_mem h
      exact ⟨m + 1, by rw [h1]; omega, by simp; omega⟩
    split at h
    · rcases List.mem_cons.1 h with rfl | h
      · exact ⟨0, rfl, by simp⟩
      · exact go h
    · exact go h
end Go.Vi.A
namespace Go.Vi.B
open Go.Proofs Go.Vi.A
set_option linter.unusedVariables false
set_option linter.unusedSimpArgs false
variable {β : Type} {N : Nat} (hN : 1000 ≤ N)
/-- Pressures within limits. -/
structure PrOk (pl : List Pl) (ps : List Int) : Prop where
  len : ps.length = pl.length
  rng : ∀ x ∈ ps, -70368744177664 ≤ x ∧ x ≤ 70368744177664
theorem PrOk.get {pl : List Pl} {ps : List Int} (h : PrOk pl ps) {i : Int} (h0 : 0 ≤ i) (h1 : i < (pl.length : Int)) : ∃ x, ps[i.toNat]? = some x ∧ -70368744177664 ≤ x ∧ x ≤ 70368744177664 := by
  obtain ⟨x, hx⟩ := geti (xs := ps) h0 (by have := h.len; omega)
  exact ⟨x, hx, h.rng x (List.mem_of_getElem? hx)⟩
include hN in
theorem ref10_Lowest {pl : List Pl} {ro : List Ro} {fa : List Fa} {dr : List Do} {sf sd ps : List Int} (h : AirOk pl ro fa dr) (hs : SetOk fa dr sf sd) (hp : PrOk pl ps) (p : Int) (k : Int → Option β) :
    F40.C N pl ro fa dr sf sd ps p k = k (lowP (dr.zip sd) (fa.zip sf) ro ps p) := by
  have hl := h.nro
  rw [F40.C_eq]; unfold F40.K
  obtain ⟨s, hs', e⟩ := lfor (len := ro.length) (L := fun n j (m : Int) => F40.l3 N n ps p pl ro fa dr sf sd 0 m (j : Int) fun _ _ _ _ _ _ _ _ _ z20 _ _ => k z20) (k := k) (fun j m => m = sumI (lowT (dr.zip sd) (fa.zip sf) ps p) 0 (ro.take j))
    (fun n m hm => by simp only [F40.l3, res, Int.lt_irrefl, if_false])
    (fun j m hj hm => by
      obtain ⟨r, hr⟩ := getl hj
      have hR := h.road r (List.mem_of_getElem? hr)
      obtain ⟨u, hu, u0, u1⟩ := hp.get hR.frm.1 hR.frm.2
      obtain ⟨v, hv, v0, v1⟩ := hp.get hR.to.1 hR.to.2
      have b := low_rng (dr.zip sd) (fa.zip sf) hl ps p j
      have fl := fl_rng (drop (dr.zip sd) (fa.zip sf) j r) (u - v)
      have ed : dOf ps r = u - v := by unfold dOf; rw [getD_eq hu, getD_eq hv]
      have hr' : ro[((j : Nat) : Int).toNat]? = some r := by rw [Int.toNat_natCast]; exact hr
      refine ⟨_, rfl, fun n => ?_⟩
      subst hm
      rw [sumI_take _ hr]
      simp only [F40.l3, res, Int.toNat_natCast, hr, ge_some, w_succ (show j < 4000000000 by omega), hu, hv, hR.frm.1, hR.to.1, Int.natCast_nonneg, if_true, w_id (x := u - v) (by omega) (by omega), ref09_Lowest hN h hs (Int.natCast_nonneg j) hr', ref09_Highest hN h hs (Int.natCast_nonneg j) hr']
      rw [if_pos (by omega)]
      generalize hS : sumI (lowT (dr.zip sd) (fa.zip sf) ps p) 0 (ro.take j) = S at b ⊢
      unfold lowT
      rw [ed]
      cases hc : r.2.2.2.2.2.1 with
      | true => simp only [res, if_true, Int.add_zero]
      | false =>
        have hne := hR.ne
        simp only [res, Bool.false_eq_true, if_false]
        by_cases c1 : r.1 = p
        · have c2 : ¬ r.2.1 = p := by omega
          simp only [c1, c2, if_true, if_false]
          rw [w_id (by omega) (by omega), Int.sub_zero]
        · by_cases c2 : r.2.1 = p
          · simp only [c1, c2, if_true, if_false]
            rw [w_id (by omega) (by omega), Int.zero_sub, Int.sub_eq_add_neg]
          · simp only [c1, c2, if_false, Int.sub_self, Int.add_zero]) 0 0 N (by simp [sumI]) (by omega) (by omega)
  refine e.trans ?_
  rw [hs', List.take_of_length_le (Nat.le_refl _)]; rfl
include hN in
theorem ref10_Highest {pl : List Pl} {ro : List Ro} {fa : List Fa} {dr : List Do} {sf sd ps : List Int} (h : AirOk pl ro fa dr) (hs : SetOk fa dr sf sd) (hp : PrOk pl ps) (p : Int) (k : Int → Option β) :
    F41.C N pl ro fa dr sf sd ps p k = k (highP (dr.zip sd) (fa.zip sf) ro ps p) := by
  have hl := h.nro
  rw [F41.C_eq]; unfold F41.K
  obtain ⟨s, hs', e⟩ := lfor (len := ro.length) (L := fun n j (m : Int) => F41.l3 N n ps p pl ro fa dr sf sd 0 m (j : Int) fun _ _ _ _ _ _ _ _ _ z20 _ _ => k z20) (k := k) (fun j m => m = sumI (highT (dr.zip sd) (fa.zip sf) ps p) 0 (ro.take j))
    (fun n m hm => by simp only [F41.l3, res, Int.lt_irrefl, if_false])
    (fun j m hj hm => by
      obtain ⟨r, hr⟩ := getl hj
      have hR := h.road r (List.mem_of_getElem? hr)
      obtain ⟨u, hu, u0, u1⟩ := hp.get hR.frm.1 hR.frm.2
      obtain ⟨v, hv, v0, v1⟩ := hp.get hR.to.1 hR.to.2
      have b := high_rng (dr.zip sd) (fa.zip sf) hl ps p j
      have fl := fl_rng (drop (dr.zip sd) (fa.zip sf) j r) (u - v)
      have ed : dOf ps r = u - v := by unfold dOf; rw [getD_eq hu, getD_eq hv]
      have hr' : ro[((j : Nat) : Int).toNat]? = some r := by rw [Int.toNat_natCast]; exact hr
      refine ⟨_, rfl, fun n => ?_⟩
      subst hm
      rw [sumI_take _ hr]
      simp only [F41.l3, res, Int.toNat_natCast, hr, ge_some, w_succ (show j < 4000000000 by omega), hu, hv, hR.frm.1, hR.to.1, Int.natCast_nonneg, if_true, w_id (x := u - v) (by omega) (by omega), ref09_Lowest hN h hs (Int.natCast_nonneg j) hr', ref09_Highest hN h hs (Int.natCast_nonneg j) hr']
      rw [if_pos (by omega)]
      generalize hS : sumI (highT (dr.zip sd) (fa.zip sf) ps p) 0 (ro.take j) = S at b ⊢
      unfold highT
      rw [ed]
      cases hc : r.2.2.2.2.2.1 with
      | true => simp only [res, if_true, Int.add_zero]
      | false =>
        have hne := hR.ne
        simp only [res, Bool.false_eq_true, if_false]
        by_cases c1 : r.1 = p
        · have c2 : ¬ r.2.1 = p := by omega
          simp only [c1, c2, if_true, if_false]
          rw [w_id (by omega) (by omega), Int.sub_zero]
        · by_cases c2 : r.2.1 = p
          · simp only [c1, c2, if_true, if_false]
            rw [w_id (by omega) (by omega), Int.zero_sub, Int.sub_eq_add_neg]
          · simp only [c1, c2, if_false, Int.sub_self, Int.add_zero]) 0 0 N (by simp [sumI]) (by omega) (by omega)
  refine e.trans ?_
  rw [hs', List.take_of_length_le (Nat.le_refl _)]; rfl
include hN in
theorem net_Low {pl : List Pl} {ro : List Ro} {fa : List Fa} {dr : List Do} (sf sd : List Int) {ps : List Int} (h : AirOk pl ro fa dr) (hp : PrOk pl ps) {p : Int} (p0 : 0 ≤ p) (p1 : p < (pl.length : Int)) (k : Int → Option β) :
    F34.C N (pipesF (dr.zip sd) (fa.zip sf) 0 ro) (tab pl.length fun p => some (atF p 0 (pipesF (dr.zip sd) (fa.zip sf) 0 ro))) ps p k = k (lowP (dr.zip sd) (fa.zip sf) ro ps p) := by
  have hl := h.nro
  have hP := pipesF_len (dr.zip sd) (fa.zip sf) ro 0
  have ep : ((p.toNat : Nat) : Int) = p := by omega
  rw [F34.C_eq]; unfold F34.K
  simp only [res, p0, if_true, tab_get (show p.toNat < pl.length by omega), ge_some, ep]
  have hA := atF_len p (pipesF (dr.zip sd) (fa.zip sf) 0 ro) 0
  obtain ⟨s, hs', e⟩ := lfor (len := (atF p 0 (pipesF (dr.zip sd) (fa.zip sf) 0 ro)).length) (L := fun n j (m : Int) => F34.l3 N n ps p (pipesF (dr.zip sd) (fa.zip sf) 0 ro) (tab pl.length fun p => some (atF p 0 (pipesF (dr.zip sd) (fa.zip sf) 0 ro))) 0 m (atF p 0 (pipesF (dr.zip sd) (fa.zip sf) 0 ro)) ((atF p 0 (pipesF (dr.zip sd) (fa.zip sf) 0 ro)).length : Int) (j : Int) fun _ _ _ _ _ z12 _ _ _ _ => k z12) (k := k)
    (fun j m => m = sumK (lowX ps p) (pipesF (dr.zip sd) (fa.zip sf) 0 ro) ((atF p 0 (pipesF (dr.zip sd) (fa.zip sf) 0 ro)).take j))
    (fun n m hm => by simp only [F34.l3, res, Int.lt_irrefl, if_false])
    (fun j m hj hm => by
      obtain ⟨y, hy⟩ := getl hj
      obtain ⟨mm, hmm, hml⟩ := atF_mem (List.mem_of_getElem? hy)
      rw [Nat.zero_add] at hmm
      obtain ⟨x, hx⟩ := getl hml
      obtain ⟨j', r, hr, hxe, hc⟩ := pipes_mem (List.mem_of_getElem? hx)
      rw [Nat.zero_add] at hxe
      have hR := h.road r (List.mem_of_getElem? hr)
      have ok := pOf_ok h sf sd (j' : Int) (List.mem_of_getElem? hr)
      rw [← hxe] at ok
      have f1 : x.1.1 = r.1 := by rw [hxe]; rfl
      have f2 : x.1.2.1 = r.2.1 := by rw [hxe]; rfl
      obtain ⟨u, hu, u0, u1⟩ := hp.get hR.frm.1 hR.frm.2
      obtain ⟨v, hv, v0, v1⟩ := hp.get hR.to.1 hR.to.2
      have ed : dOf ps x.1 = u - v := by unfold dOf; rw [f1, f2, getD_eq hu, getD_eq hv]
      have fl := fl_rng (pdrop x) (u - v)
      have b := sumI_bd (M := 1048577) (f := fun (_ : Nat) (k : Int) => match (pipesF (dr.zip sd) (fa.zip sf) 0 ro)[k.toNat]? with | some x => lowX ps p x | none => 0) (by omega) (fun i k => by
        split
        · rename_i x _
          have := fl_rng (pdrop x) (dOf ps x.1)
          unfold lowX; split <;> omega
        · omega) ((atF p 0 (pipesF (dr.zip sd) (fa.zip sf) 0 ro)).take j) 128 0 (by rw [List.length_take]; omega)
      refine ⟨_, rfl, fun n => ?_⟩
      subst hm
      have hx' : (pipesF (dr.zip sd) (fa.zip sf) 0 ro)[y.toNat]? = some x := by rw [hmm, Int.toNat_natCast]; exact hx
      have ex : x.1.1 = r.1 := f1
      unfold sumK at *
      rw [sumI_take _ hy, hx']
      simp only [F34.l3, res, Int.toNat_natCast, hy, hx', ge_some, w_succ (show j < 4000000000 by omega), f1, f2, hu, hv, hR.frm.1, hR.to.1, Int.natCast_nonneg, if_true, w_id (x := u - v) (by omega) (by omega)]
      rw [if_pos (by omega), if_pos (by omega)]
      have eL := pipe_Low (β := β) hN ok (u - v)
      have eH := pipe_High (β := β) hN ok (u - v)
      rw [f1, f2] at eL eH
      rw [eL, eH]
      generalize hS : sumI _ 0 ((atF p 0 (pipesF (dr.zip sd) (fa.zip sf) 0 ro)).take j) = S at b ⊢
      unfold lowX
      rw [ed, f1]
      by_cases c : r.1 = p
      · rw [if_pos c, if_pos c, w_id (by omega) (by omega)]
      · rw [if_neg c, if_neg c, w_id (by omega) (by omega), Int.sub_eq_add_neg]) 0 0 N (by simp [sumK, sumI]) (by omega) (by omega)
  refine e.trans ?_
  rw [hs', List.take_of_length_le (Nat.le_refl _)]
  unfold lowP
  rw [at_sum (t := lowT (dr.zip sd) (fa.zip sf) ps p) (g := lowX ps p) (fun i r hne hc => by
    unfold lowT lowX
    rw [hc, if_neg (by decide), funext (pdrop_pOf _ _ _ _)]
    have e1 : (pOf (dr.zip sd) (fa.zip sf) i r).1.1 = r.1 := rfl
    have e2 : dOf ps (pOf (dr.zip sd) (fa.zip sf) i r).1 = dOf ps r := rfl
    rw [e1, e2]
    by_cases c1 : r.1 = p
    · rw [if_pos c1, if_neg (by omega), if_pos (.inl c1), if_pos c1, Int.sub_zero]
    · by_cases c2 : r.2.1 = p
      · rw [if_neg c1, if_pos c2, if_pos (.inr c2), if_neg c1, Int.zero_sub]
      · rw [if_neg c1, if_neg c2, if_neg (by rintro (h | h) <;> contradiction)]; rfl) (fun i r hc => by unfold lowT; rw [if_pos hc]) ro 0 0 (pipesF (dr.zip sd) (fa.zip sf) 0 ro) (fun r hr => (h.road r hr).ne) (fun m => by rw [Nat.zero_add])]
include hN in
theorem net_High {pl : List Pl} {ro : List Ro} {fa : List Fa} {dr : List Do} (sf sd : List Int) {ps : List Int} (h : AirOk pl ro fa dr) (hp : PrOk pl ps) {p : Int} (p0 : 0 ≤ p) (p1 : p < (pl.length : Int)) (k : Int → Option β) :
    F35.C N (pipesF (dr.zip sd) (fa.zip sf) 0 ro) (tab pl.length fun p => some (atF p 0 (pipesF (dr.zip sd) (fa.zip sf) 0 ro))) ps p k = k (highP (dr.zip sd) (fa.zip sf) ro ps p) := by
  have hl := h.nro
  have hP := pipesF_len (dr.zip sd) (fa.zip sf) ro 0
  have ep : ((p.toNat : Nat) : Int) = p := by omega
  rw [F35.C_eq]; unfold F35.K
  simp only [res, p0, if_true, tab_get (show p.toNat < pl.length by omega), ge_some, ep]
  have hA := atF_len p (pipesF (dr.zip sd) (fa.zip sf) 0 ro) 0
  obtain ⟨s, hs', e⟩ := lfor (len := (atF p 0 (pipesF (dr.zip sd) (fa.zip sf) 0 ro)).length) (L := fun n j (m : Int) => F35.l3 N n ps p (pipesF (dr.zip sd) (fa.zip sf) 0 ro) (tab pl.length fun p => some (atF p 0 (pipesF (dr.zip sd) (fa.zip sf) 0 ro))) 0 m (atF p 0 (pipesF (dr.zip sd) (fa.zip sf) 0 ro)) ((atF p 0 (pipesF (dr.zip sd) (fa.zip sf) 0 ro)).length : Int) (j : Int) fun _ _ _ _ _ z12 _ _ _ _ => k z12) (k := k)
    (fun j m => m = sumK (highX ps p) (pipesF (dr.zip sd) (fa.zip sf) 0 ro) ((atF p 0 (pipesF (dr.zip sd) (fa.zip sf) 0 ro)).take j))
    (fun n m hm => by simp only [F35.l3, res, Int.lt_irrefl, if_false])
    (fun j m hj hm => by
      obtain ⟨y, hy⟩ := getl hj
      obtain ⟨mm, hmm, hml⟩ := atF_mem (List.mem_of_getElem? hy)
      rw [Nat.zero_add] at hmm
      obtain ⟨x, hx⟩ := getl hml
      obtain ⟨j', r, hr, hxe, hc⟩ := pipes_mem (List.mem_of_getElem? hx)
      rw [Nat.zero_add] at hxe
      have hR := h.road r (List.mem_of_getElem? hr)
      have ok := pOf_ok h sf sd (j' : Int) (List.mem_of_getElem? hr)
      rw [← hxe] at ok
      have f1 : x.1.1 = r.1 := by rw [hxe]; rfl
      have f2 : x.1.2.1 = r.2.1 := by rw [hxe]; rfl
      obtain ⟨u, hu, u0, u1⟩ := hp.get hR.frm.1 hR.frm.2
      obtain ⟨v, hv, v0, v1⟩ := hp.get hR.to.1 hR.to.2
      have ed : dOf ps x.1 = u - v := by unfold dOf; rw [f1, f2, getD_eq hu, getD_eq hv]
      have fl := fl_rng (pdrop x) (u - v)
      have b := sumI_bd (M := 1048577) (f := fun (_ : Nat) (k : Int) => match (pipesF (dr.zip sd) (fa.zip sf) 0 ro)[k.toNat]? with | some x => highX ps p x | none => 0) (by omega) (fun i k => by
        split
        · rename_i x _
          have := fl_rng (pdrop x) (dOf ps x.1)
          unfold highX; split <;> omega
        · omega) ((atF p 0 (pipesF (dr.zip sd) (fa.zip sf) 0 ro)).take j) 128 0 (by rw [List.length_take]; omega)
      refine ⟨_, rfl, fun n => ?_⟩
      subst hm
      have hx' : (pipesF (dr.zip sd) (fa.zip sf) 0 ro)[y.toNat]? = some x := by rw [hmm, Int.toNat_natCast]; exact hx
      unfold sumK at *
      rw [sumI_take _ hy, hx']
      simp only [F35.l3, res, Int.toNat_natCast, hy, hx', ge_some, w_succ (show j < 4000000000 by omega), f1, f2, hu, hv, hR.frm.1, hR.to.1, Int.natCast_nonneg, if_true, w_id (x := u - v) (by omega) (by omega)]
      rw [if_pos (by omega), if_pos (by omega)]
      have eL := pipe_Low (β := β) hN ok (u - v)
      have eH := pipe_High (β := β) hN ok (u - v)
      rw [f1, f2] at eL eH
      rw [eL, eH]
      generalize hS : sumI _ 0 ((atF p 0 (pipesF (dr.zip sd) (fa.zip sf) 0 ro)).take j) = S at b ⊢
      unfold highX
      rw [ed, f1]
      by_cases c : r.1 = p
      · rw [if_pos c, if_pos c, w_id (by omega) (by omega)]
      · rw [if_neg c, if_neg c, w_id (by omega) (by omega), Int.sub_eq_add_neg]) 0 0 N (by simp [sumK, sumI]) (by omega) (by omega)
  refine e.trans ?_
  rw [hs', List.take_of_length_le (Nat.le_refl _)]
  unfold highP
  rw [at_sum (t := highT (dr.zip sd) (fa.zip sf) ps p) (g := highX ps p) (fun i r hne hc => by
    unfold highT highX
    rw [hc, if_neg (by decide), funext (pdrop_pOf _ _ _ _)]
    have e1 : (pOf (dr.zip sd) (fa.zip sf) i r).1.1 = r.1 := rfl
    have e2 : dOf ps (pOf (dr.zip sd) (fa.zip sf) i r).1 = dOf ps r := rfl
    rw [e1, e2]
    by_cases c1 : r.1 = p
    · rw [if_pos c1, if_neg (by omega), if_pos (.inl c1), if_pos c1, Int.sub_zero]
    · by_cases c2 : r.2.1 = p
      · rw [if_neg c1, if_pos c2, if_pos (.inr c2), if_neg c1, Int.zero_sub]
      · rw [if_neg c1, if_neg c2, if_neg (by rintro (h | h) <;> contradiction)]; rfl) (fun i r hc => by unfold highT; rw [if_pos hc]) ro 0 0 (pipesF (dr.zip sd) (fa.zip sf) 0 ro) (fun r hr => (h.road r hr).ne) (fun m => by rw [Nat.zero_add])]
end Go.Vi.B
/- minecontrol/minecontrolref01.From -/
namespace Go.Vi.B
open Go.Proofs
set_option linter.unusedVariables false
set_option maxRecDepth 100000
abbrev F47.i : Sh := [(0, .agg [.lst .frz 62 kd1, .lst .frz 71 kd8]), (2, .one (.lst .frz 4 .bool))]
abbrev F47.o0 : Sh := [(0, .one (.view 0 0)), (1, .slot true [.lst .own 4 .bool])]
noncomputable def F47.l6 {β : Type} (N : Nat) : Nat → (List Pl) → (List Ro) → (List Bool) → (List Bool) → Bool → Int → (List Pl → List Ro → List Bool → List Bool → Bool → Int → Bool → Option β) → Option β
 | 0, _, _, _, _, _, _, _ => none
 | n + 1, v0, v1, v2, v3, v4, v5, k0 =>
  bl (v5 < (v1.length : Int)) (k0 v0 v1 v2 v3 v4 v5 (decide (v5 < (v1.length : Int)))) <|
  ck (0 ≤ v5) <|
  ge (v1[v5.toNat]?) fun x1 =>
  bl (!x1.2.2.2.2.2.1) (F47.l6 N n v0 v1 v2 v3 v4 (w (v5 + 1)) k0) <|
  ck (0 ≤ x1.1) <|
  ge (v3[x1.1.toNat]?) fun _ =>
  ge (v3[x1.1.toNat]?) fun x3 =>
  ck (0 ≤ x1.2.1) <|
  ge (v3[x1.2.1.toNat]?) fun _ =>
  ge (v3[x1.2.1.toNat]?) fun x5 =>
  bl (!(x3 == x5)) (F47.l6 N n v0 v1 v2 v3 v4 (w (v5 + 1)) k0) <|
  ck (0 ≤ x1.1) <|
  ge (v3[x1.1.toNat]?) fun _ =>
  ge (v3[x1.1.toNat]?) fun _ =>
  ck (0 ≤ x1.2.1) <|
  ge ((v3.set x1.1.toNat true)[x1.2.1.toNat]?) fun _ =>
  ge ((v3.set x1.1.toNat true)[x1.2.1.toNat]?) fun _ =>
  F47.l6 N n v0 v1 v2 ((v3.set x1.1.toNat true).set x1.2.1.toNat true) true (w (v5 + 1)) k0
noncomputable def F47.l3 {β : Type} (N : Nat) : Nat → (List Pl) → (List Ro) → (List Bool) → (List Bool) → Bool → (List Pl → List Ro → List Bool → List Bool → Bool → Option β) → Option β
 | 0, _, _, _, _, _, _ => none
 | n + 1, v0, v1, v2, v3, v4, k0 =>
  bl v4 (k0 v0 v1 v2 v3 v4) <|
  F47.l6 N N v0 v1 v2 v3 false 0 fun z10 z11 z12 z13 z14 _ _ =>
  F47.l3 N n z10 z11 z12 z13 z14 k0
noncomputable def F47.K {β : Type} (N : Nat) (a0 : List Pl) (a1 : List Ro) (a2 : List Bool) (k0 : List Bool → Option β) : Option β :=
 ck (0 + a2.length ≤ 1000000000) <|
 F47.l3 N N a0 a1 [] a2 true fun _ _ _ z20 _ =>
 k0 z20
noncomputable def F47.fx : Fx := ⟨Try.prog, [], [], [(0,[1,2,4]),(1,[2,4,5]),(2,[2,4,5,6]),(3,[2,4,5,11]),(4,[2,4,5,6]),(5,[2,4,5,6,7]),(6,[2,4,5,6,7,16]),(7,[2,4,5,6,7]),(8,[2,4,5,6,7,8]),(9,[2,4,5,6,7,8,39]),(10,[2,4,5,6,7]),(11,[4])], 49, []⟩
noncomputable def F47.cs (N : Nat) : List (Ctr Try.prog) := []
abbrev F47.s6 : Sh := [(4, .one (.addr 2 0)), (5, .slot false [.lst .frz 62 kd1, .lst .frz 71 kd8]), (8, .one (.view 4 0)), (9, .slot true [.lst .own 4 .bool]), (10, .one (.view 5 0)), (11, .slot true [.lst .own 4 .bool]), (12, .one .bool), (14, .one .i)]
abbrev F47.e6_0 : Sh := [(4, .one (.addr 2 0)), (5, .slot false [.lst .frz 62 kd1, .lst .frz 71 kd8]), (8, .one (.view 4 0)), (9, .slot true [.lst .own 4 .bool]), (10, .one (.view 5 0)), (11, .slot true [.lst .own 4 .bool]), (12, .one .bool), (14, .one .i), (32, .one .bool)]
noncomputable def F47.X6 (N : Nat) : LpC Try.prog F47.fx := mkL (F47.cs N) [] ((loopsOf ((loopsOf (bodyOf Try.f47)).getD 0 .skip)).getD 0 .skip) 6 [2,4,5,6,7] (by kernel_rfl) (by kernel_rfl) (by kernel_rfl) F47.s6 (fun n x k => F47.l6 N n x.1 x.2.1 x.2.2.1 x.2.2.2.1 x.2.2.2.2.1 x.2.2.2.2.2.1 (fun r0 r1 r2 r3 r4 r5 r6 => k (.exit 2) (Sh.mk F47.e6_0 (r0, r1, r2, r3, r4, r5, r6, ())))) (fun _ _ => rfl) (fun _ _ _ => by kernel_rfl) N
abbrev F47.s3 : Sh := [(4, .one (.addr 2 0)), (5, .slot false [.lst .frz 62 kd1, .lst .frz 71 kd8]), (8, .one (.view 4 0)), (9, .slot true [.lst .own 4 .bool]), (10, .one (.view 5 0)), (11, .slot true [.lst .own 4 .bool]), (12, .one .bool)]
abbrev F47.e3_0 : Sh := [(4, .one (.addr 2 0)), (5, .slot false [.lst .frz 62 kd1, .lst .frz 71 kd8]), (8, .one (.view 4 0)), (9, .slot true [.lst .own 4 .bool]), (10, .one (.view 5 0)), (11, .slot true [.lst .own 4 .bool]), (22, .one .bool)]
noncomputable def F47.X3 (N : Nat) : LpC Try.prog F47.fx := mkL (F47.cs N) [F47.X6 N] ((loopsOf (bodyOf Try.f47)).getD 0 .skip) 3 [2,4,5,6] (by kernel_rfl) (by kernel_rfl) (by kernel_rfl) F47.s3 (fun n x k => F47.l3 N n x.1 x.2.1 x.2.2.1 x.2.2.2.1 x.2.2.2.2.1 (fun r0 r1 r2 r3 r4 => k (.exit 0) (Sh.mk F47.e3_0 (r0, r1, r2, r3, r4, ())))) (fun _ _ => rfl) (fun _ _ _ => by kernel_rfl) N
noncomputable def F47.C {β : Type} (N : Nat) := (Sealed fun β => @F47.K β).1 β N
theorem F47.C_eq {β : Type} (N : Nat) : @F47.C β N = @F47.K β N := congrFun (congrFun (Sealed fun β => @F47.K β).2 β) N
noncomputable def F47.X (N : Nat) : Ctr Try.prog := mkF 47 Try.f47 F47.fx (F47.cs N) [F47.X3 N] F47.i (fun x k => F47.C N x.1 x.2.1 x.2.2.1 (fun r0 => k (Sh.mk F47.o0 (r0, ())))) (by intros; rw [F47.C_eq]; kernel_rfl) (by kernel_rfl) (by kernel_rfl) (by kernel_rfl) (by kernel_rfl) rfl (by kernel_rfl) rfl (by kernel_rfl) (by kernel_rfl) (by kernel_rfl) (.dead _ 47) rfl
end Go.Vi.B
/- minecontrol/minecontrolref01.Airy -/
namespace Go.Vi.B
open Go.Proofs
set_option linter.unusedVariables false
set_option maxRecDepth 100000
abbrev F19.i : Sh := [(0, .agg [.lst .frz 62 kd1, .lst .frz 71 kd8])]
abbrev F19.o0 : Sh := [(0, .one (.view 0 0)), (1, .slot true [.lst .own 4 .bool])]
noncomputable def F19.l3 {β : Type} (N : Nat) : Nat → (List Pl) → (List Ro) → (List Bool) → (List Bool) → Int → (List Pl → List Ro → List Bool → List Bool → Int → Bool → Option β) → Option β
 | 0, _, _, _, _, _, _ => none
 | n + 1, v0, v1, v2, v3, v4, k0 =>
  bl (v4 < (v0.length : Int)) (k0 v0 v1 v2 v3 v4 (decide (v4 < (v0.length : Int)))) <|
  ck (0 ≤ v4) <|
  ge (v0[v4.toNat]?) fun x1 =>
  ck (0 ≤ v4) <|
  ge (v3[v4.toNat]?) fun _ =>
  ge (v3[v4.toNat]?) fun _ =>
  F19.l3 N n v0 v1 v2 (v3.set v4.toNat x1.2) (w (v4 + 1)) k0
noncomputable def F19.K {β : Type} (N : Nat) (a0 : List Pl) (a1 : List Ro) (k0 : List Bool → Option β) : Option β :=
 ck ((a0.length : Int) = (a0.length : Int)) <|
 ck (0 ≤ (a0.length : Int)) <|
 ck ((a0.length : Int) ≤ 1000000000) <|
 F19.l3 N N a0 a1 [] (List.replicate (Int.toNat (a0.length : Int)) false) 0 fun z4 z5 _ z7 _ _ =>
 F47.C N z4 z5 z7 fun r10 =>
 k0 r10
noncomputable def F19.fx : Fx := ⟨Try.prog, [], [], [(0,[1,2]),(1,[1,2,3]),(2,[1,2,3,4]),(3,[1,2,3,4,13]),(4,[1,2,3,4]),(5,[1,2,3,4]),(6,[2])], 28, []⟩
noncomputable def F19.cs (N : Nat) : List (Ctr Try.prog) := [F47.X N]
abbrev F19.s3 : Sh := [(2, .one (.addr 1 0)), (3, .slot false [.lst .frz 62 kd1, .lst .frz 71 kd8]), (4, .one (.view 2 0)), (5, .slot true [.lst .own 4 .bool]), (6, .one (.view 3 0)), (7, .slot true [.lst .own 4 .bool]), (8, .one .i)]
abbrev F19.e3_0 : Sh := [(2, .one (.addr 1 0)), (3, .slot false [.lst .frz 62 kd1, .lst .frz 71 kd8]), (4, .one (.view 2 0)), (5, .slot true [.lst .own 4 .bool]), (6, .one (.view 3 0)), (7, .slot true [.lst .own 4 .bool]), (8, .one .i), (26, .one .bool)]
noncomputable def F19.X3 (N : Nat) : LpC Try.prog F19.fx := mkL (F19.cs N) [] ((loopsOf (bodyOf Try.f19)).getD 0 .skip) 3 [1,2,3,4] (by kernel_rfl) (by kernel_rfl) (by kernel_rfl) F19.s3 (fun n x k => F19.l3 N n x.1 x.2.1 x.2.2.1 x.2.2.2.1 x.2.2.2.2.1 (fun r0 r1 r2 r3 r4 r5 => k (.exit 0) (Sh.mk F19.e3_0 (r0, r1, r2, r3, r4, r5, ())))) (fun _ _ => rfl) (fun _ _ _ => by kernel_rfl) N
noncomputable def F19.C {β : Type} (N : Nat) := (Sealed fun β => @F19.K β).1 β N
theorem F19.C_eq {β : Type} (N : Nat) : @F19.C β N = @F19.K β N := congrFun (congrFun (Sealed fun β => @F19.K β).2 β) N
noncomputable def F19.X (N : Nat) : Ctr Try.prog := mkF 19 Try.f19 F19.fx (F19.cs N) [F19.X3 N] F19.i (fun x k => F19.C N x.1 x.2.1 (fun r0 => k (Sh.mk F19.o0 (r0, ())))) (by intros; rw [F19.C_eq]; kernel_rfl) (by kernel_rfl) (by kernel_rfl) (by kernel_rfl) (by kernel_rfl) rfl (by kernel_rfl) rfl (by kernel_rfl) (by kernel_rfl) (by kernel_rfl) (.dead _ 19) rfl
end Go.Vi.B
/- Which places have air: the surface's and those that open roads join to it. -/
namespace Go.Vi.A
/-- A place with air: at the surface, or joined by an open road to a place with air. -/
inductive Air (pl : List Pl) (ro : List Ro) : Nat → Prop
  | top {i : Nat} {p : Pl} : pl[i]? = some p → p.2 = true → Air pl ro i
  | out {r : Ro} : r ∈ ro → r.2.2.2.2.2.1 = false → Air pl ro r.1.toNat → Air pl ro r.2.1.toNat
  | back {r : Ro} : r ∈ ro → r.2.2.2.2.2.1 = false → Air pl ro r.2.1.toNat → Air pl ro r.1.toNat
noncomputable def airB (pl : List Pl) (ro : List Ro) (i : Nat) : Bool := @decide (Air pl ro i) (Classical.propDecidable _)
theorem airB_true {pl : List Pl} {ro : List Ro} {i : Nat} : airB pl ro i = true ↔ Air pl ro i := by
  unfold airB; simp
theorem airB_false {pl : List Pl} {ro : List Ro} {i : Nat} : airB pl ro i = false ↔ ¬ Air pl ro i := by
  unfold airB; simp
/-- How many of the first places are marked. -/
def cnt : Nat → (Nat → Bool) → Nat
  | 0, _ => 0
  | n + 1, f => cnt n f + if f n = true then 1 else 0
theorem cnt_le : ∀ (n : Nat) (f : Nat → Bool), cnt n f ≤ n
  | 0, _ => Nat.le_refl _
  | n + 1, f => by have := cnt_le n f; simp only [cnt]; split <;> omega
theorem cnt_mono {f g : Nat → Bool} (h : ∀ i, f i = true → g i = true) : ∀ n, cnt n f ≤ cnt n g
  | 0 => Nat.le_refl _
  | n + 1 => by
    have := cnt_mono h n
    simp only [cnt]
    by_cases c : f n = true
    · rw [if_pos c, if_pos (h n c)]; omega
    · rw [if_neg c]; omega
theorem cnt_lt {f g : Nat → Bool} (h : ∀ i, f i = true → g i = true) {j : Nat} (h0 : f j = false) (h1 : g j = true) : ∀ n, j < n → cnt n f < cnt n g
  | 0, hj => by omega
  | n + 1, hj => by
    simp only [cnt]
    by_cases e : j = n
    · subst e; have := cnt_mono h j; rw [h0, h1]; simp; omega
    · have := cnt_lt h h0 h1 n (by omega)
      by_cases c : f n = true
      · rw [if_pos c, if_pos (h n c)]; omega
      · rw [if_neg c]; split <;> omega
theorem cnt_congr {f g : Nat → Bool} : ∀ n, (∀ i, i < n → f i = g i) → cnt n f = cnt n g
  | 0, _ => rfl
  | n + 1, h => by simp only [cnt, cnt_congr n (fun i hi => h i (by omega)), h n (by omega)]
theorem cnt_tab (n : Nat) (f : Nat → Bool) : cnt n (fun i => (tab n f).getD i false) = cnt n f := cnt_congr n fun i hi => by rw [List.getD_eq_getElem?_getD, tab_get hi]; rfl
/-- The open roads join marked to marked and unmarked to unmarked. -/
def Shut (ro : List Ro) (f : Nat → Bool) : Prop := ∀ r ∈ ro, r.2.2.2.2.2.1 = false → f r.1.toNat = f r.2.1.toNat
theorem air_of_shut {pl : List Pl} {ro : List Ro} {f : Nat → Bool} (h0 : ∀ (i : Nat) (p : Pl), pl[i]? = some p → p.2 = true → f i = true) (h1 : ∀ i, f i = true → Air pl ro i) (h2 : Shut ro f) (i : Nat) : f i = airB pl ro i := by
  cases c : airB pl ro i with
  | true =>
    have a := airB_true.1 c
    clear c
    induction a with
    | top h e => exact h0 _ _ h e
    | out h e _ ih => rw [← h2 _ h e]; exact ih
    | back h e _ ih => rw [h2 _ h e]; exact ih
  | false =>
    cases d : f i with
    | true => exact absurd (h1 i d) (airB_false.1 c)
    | false => rfl
/-- Roads between given places. -/
def RdOk (n : Nat) (ro : List Ro) : Prop := ∀ r ∈ ro, (0 ≤ r.1 ∧ r.1 < (n : Int)) ∧ 0 ≤ r.2.1 ∧ r.2.1 < (n : Int)
theorem AirOk.rd {pl : List Pl} {ro : List Ro} {fa : List Fa} {dr : List Do} (h : AirOk pl ro fa dr) : RdOk pl.length ro := fun r hr => ⟨(h.road r hr).frm, (h.road r hr).to⟩
/-- The places at the surface. -/
def topB (pl : List Pl) (i : Nat) : Bool := (pl.getD i (0, false)).2
end Go.Vi.A
namespace Go.Vi.B
open Go.Proofs Go.Vi.A
set_option linter.unusedVariables false
variable {N : Nat} (hN : 1000 ≤ N) {β : Type}
/-- One round: what it marks, and that it says so. -/
structure Rnd (pl : List Pl) (ro : List Ro) (f0 : Nat → Bool) (j : Nat) (s : List Bool × Bool) : Prop where
  ex : ∃ f, s.1 = tab pl.length f ∧ (∀ i, f i = true → Air pl ro i) ∧ (∀ i, f0 i = true → f i = true) ∧ (s.2 = true → cnt pl.length f0 < cnt pl.length f) ∧ (s.2 = false → f = f0 ∧ Shut (ro.take j) f0)
include hN in
theorem from_round {pl : List Pl} {ro : List Ro} (hn : pl.length ≤ 64) (hm : ro.length ≤ 128) (hr : RdOk pl.length ro) {f0 : Nat → Bool} (h0 : ∀ i, f0 i = true → Air pl ro i) :
    ∃ s, Rnd pl ro f0 ro.length s ∧ ∀ (K : List Pl → List Ro → List Bool → List Bool → Bool → Int → Bool → Option β), F47.l6 N N pl ro [] (tab pl.length f0) false 0 K = K pl ro [] s.1 s.2 (ro.length : Int) false := by
  suffices hh : ∃ s, Rnd pl ro f0 ro.length s ∧ (fun (K : List Pl → List Ro → List Bool → List Bool → Bool → Int → Bool → Option β) => F47.l6 N N pl ro [] (tab pl.length f0) false 0 K) = fun K => K pl ro [] s.1 s.2 (ro.length : Int) false by
    obtain ⟨s, a, b⟩ := hh
    exact ⟨s, a, fun K => congrFun b K⟩
  refine lfor (len := ro.length) (L := fun n j (s : List Bool × Bool) => fun (K : List Pl → List Ro → List Bool → List Bool → Bool → Int → Bool → Option β) => F47.l6 N n pl ro [] s.1 s.2 (j : Int) K) (k := fun s => fun K => K pl ro [] s.1 s.2 (ro.length : Int) false) (Rnd pl ro f0)
    (fun n s hs => funext fun K => by simp only [F47.l6, res, Int.lt_irrefl, decide_false]) (fun j s hj hs => ?_) 0 (tab pl.length f0, false) N
    ⟨⟨f0, rfl, h0, fun _ h => h, (fun h => nomatch h), fun _ => ⟨rfl, fun r h => by simp at h⟩⟩⟩ (by omega) (by omega)
  obtain ⟨f, e, g1, g2, g3, g4⟩ := hs.ex
  obtain ⟨l, ch⟩ := s
  simp only at e g3 g4
  subst e
  obtain ⟨r, hr'⟩ := getl hj
  have hmem := List.mem_of_getElem? hr'
  obtain ⟨⟨a0, a1⟩, b0, b1⟩ := hr r hmem
  have keep : ∀ {c : Bool}, c = ch → (ch = false → r.2.2.2.2.2.1 = false → f r.1.toNat = f r.2.1.toNat) → Rnd pl ro f0 (j + 1) (tab pl.length f, c) := fun {c} ec hh => by
    subst ec
    refine ⟨⟨f, rfl, g1, g2, g3, fun hc => ⟨(g4 hc).1, fun q hq he => ?_⟩⟩⟩
    rw [take_snoc hr', List.mem_append] at hq
    rcases hq with hq | hq
    · exact (g4 hc).2 q hq he
    · rw [List.mem_singleton] at hq; subst hq; rw [← (g4 hc).1]; exact hh hc he
  cases hc : r.2.2.2.2.2.1 with
  | true =>
    refine ⟨(tab pl.length f, ch), keep rfl (fun _ h => by rw [hc] at h; cases h), fun n => funext fun K => ?_⟩
    simp only [F47.l6, res, Int.toNat_natCast, hr', ge_some, hc, w_succ (show j < 4000000000 by omega)]
    rw [if_pos (by omega), if_pos (by omega)]
  | false =>
    by_cases d : f r.1.toNat = f r.2.1.toNat
    · refine ⟨(tab pl.length f, ch), keep rfl (fun _ _ => d), fun n => funext fun K => ?_⟩
      simp only [F47.l6, res, Int.toNat_natCast, hr', ge_some, hc, w_succ (show j < 4000000000 by omega), tab_get (show r.1.toNat < pl.length by omega), tab_get (show r.2.1.toNat < pl.length by omega), d, a0, b0, beq_self_eq_true]
      rw [if_pos (by omega), if_pos (by omega)]
      rfl
    · have hset : ((tab pl.length f).set r.1.toNat true).set r.2.1.toNat true = tab pl.length fun i => if i = r.2.1.toNat then true else if i = r.1.toNat then true else f i := by
        rw [tab_set (fun i => if i = r.1.toNat then true else f i) (by simp) (fun k _ hk => by simp only [if_neg hk]), tab_set (fun i => if i = r.2.1.toNat then true else if i = r.1.toNat then true else f i) (by simp) (fun k _ hk => by simp only [if_neg hk])]
      have up : ∀ i, f i = true → (if i = r.2.1.toNat then true else if i = r.1.toNat then true else f i) = true := fun i hi => by
        split
        · rfl
        · split
          · rfl
          · exact hi
      have lt : cnt pl.length f < cnt pl.length fun i => if i = r.2.1.toNat then true else if i = r.1.toNat then true else f i := by
        cases x : f r.1.toNat with
        | false => exact cnt_lt up x (by simp) pl.length (by omega)
        | true =>
          cases y : f r.2.1.toNat with
          | false => exact cnt_lt up y (by simp) pl.length (by omega)
          | true => rw [x, y] at d; exact absurd rfl d
      have le := cnt_mono g2 pl.length
      refine ⟨(tab pl.length fun i => if i = r.2.1.toNat then true else if i = r.1.toNat then true else f i, true), ⟨⟨_, rfl, fun i hi => ?_, fun i hi => up i (g2 i hi), fun _ => by omega, (fun h => nomatch h)⟩⟩, fun n => funext fun K => ?_⟩
      · by_cases e1 : i = r.2.1.toNat
        · subst e1
          cases x : f r.2.1.toNat with
          | true => exact g1 _ x
          | false =>
            cases y : f r.1.toNat with
            | true => exact .out hmem hc (g1 _ y)
            | false => rw [x, y] at d; exact absurd rfl d
        · rw [if_neg e1] at hi
          by_cases e2 : i = r.1.toNat
          · subst e2
            cases x : f r.1.toNat with
            | true => exact g1 _ x
            | false =>
              cases y : f r.2.1.toNat with
              | true => exact .back hmem hc (g1 _ y)
              | false => rw [x, y] at d; exact absurd rfl d
          · rw [if_neg e2] at hi; exact g1 i hi
      · have hs1 : ((tab pl.length f).set r.1.toNat true)[r.2.1.toNat]? = some (if r.2.1.toNat = r.1.toNat then true else f r.2.1.toNat) := by
          rw [tab_set (fun i => if i = r.1.toNat then true else f i) (by simp) (fun k _ hk => by simp only [if_neg hk]), tab_get (by omega)]
        simp only [F47.l6, res, Int.toNat_natCast, hr', ge_some, hc, w_succ (show j < 4000000000 by omega), tab_get (show r.1.toNat < pl.length by omega), tab_get (show r.2.1.toNat < pl.length by omega), a0, b0, hs1, hset]
        rw [if_pos (by omega), if_pos (by omega), show (f r.1.toNat == f r.2.1.toNat) = false from beq_eq_false_iff_ne.2 d]
        rfl
include hN in
theorem ref01_From {pl : List Pl} {ro : List Ro} (hn : pl.length ≤ 64) (hm : ro.length ≤ 128) (hr : RdOk pl.length ro) {f0 : Nat → Bool} (h0 : ∀ i, f0 i = true → Air pl ro i) (h1 : ∀ (i : Nat) (p : Pl), pl[i]? = some p → p.2 = true → f0 i = true) (k : List Bool → Option β) :
    F47.C N pl ro (tab pl.length f0) k = k (tab pl.length (airB pl ro)) := by
  rw [F47.C_eq]; unfold F47.K
  simp only [res, tab_len]
  rw [if_pos (by omega)]
  obtain ⟨s, ⟨f, e1, e2, e3, e4⟩, hd, e⟩ := lwhile (L := fun n (s : List Bool × Bool) => F47.l3 N n pl ro [] s.1 s.2 fun _ _ _ z20 _ => k z20) (k := fun s => k s.1)
    (fun s => ∃ f, s.1 = tab pl.length f ∧ (∀ i, f i = true → Air pl ro i) ∧ (∀ (i : Nat) (p : Pl), pl[i]? = some p → p.2 = true → f i = true) ∧ (s.2 = false → Shut ro f)) (fun s => s.2 = false) (fun s => 2 * (pl.length - cnt pl.length (fun i => s.1.getD i false)) + if s.2 = true then 1 else 0) (fun s hs => by
      obtain ⟨l, ch⟩ := s
      obtain ⟨f, e1, e2, e3, e4⟩ := hs
      simp only at e1 e4
      subst e1
      cases ch with
      | false => exact .inl ⟨rfl, fun n => by simp only [F47.l3, res]⟩
      | true =>
        right
        obtain ⟨⟨l', ch'⟩, ⟨f', a1, a2, a3, a4, a5⟩, a6⟩ := from_round (β := β) hN hn hm hr e2
        simp only at a1 a4 a5
        subst a1
        refine ⟨(tab pl.length f', ch'), ⟨f', rfl, a2, fun i p h1 h2 => a3 i (e3 i p h1 h2), fun h => by rw [(a5 h).1]; have := (a5 h).2; rwa [List.take_of_length_le (Nat.le_refl _)] at this⟩, ?_, fun n => by simp only [F47.l3, res, a6]⟩
        simp only [cnt_tab, if_true]
        have b1 := cnt_le pl.length f'
        cases ch' with
        | true => have := a4 rfl; simp only [if_true]; omega
        | false => rw [(a5 rfl).1]; simp) N (tab pl.length f0, true) ⟨f0, rfl, h0, h1, fun h => by cases h⟩ (by simp only [if_true]; omega)
  refine e.trans ?_
  rw [e1]
  exact congrArg k (tab_congr fun i _ => air_of_shut e3 e2 (e4 hd) i)
include hN in
theorem ref01_Airy {pl : List Pl} {ro : List Ro} (hn : pl.length ≤ 64) (hm : ro.length ≤ 128) (hr : RdOk pl.length ro) (k : List Bool → Option β) : F19.C N pl ro k = k (tab pl.length (airB pl ro)) := by
  rw [F19.C_eq]; unfold F19.K
  simp only [res, tab_rep, Int.toNat_natCast]
  rw [if_pos (show 0 ≤ (pl.length : Int) by omega), if_pos (show (pl.length : Int) ≤ 1000000000 by omega)]
  obtain ⟨s, hs, e⟩ := lfor (len := pl.length) (L := fun n j (s : List Bool) => F19.l3 N n pl ro [] s (j : Int) fun z4 z5 _ z7 _ _ => F47.C N z4 z5 z7 fun r10 => k r10) (k := fun s => F47.C N pl ro s fun r10 => k r10)
    (fun j s => s = tab pl.length fun i => decide (i < j) && topB pl i)
    (fun n s hs => by simp only [F19.l3, res, Int.lt_irrefl, if_false])
    (fun j s hj hs => by
      obtain ⟨p, hp⟩ := getl hj
      refine ⟨_, rfl, fun n => ?_⟩
      subst hs
      simp only [F19.l3, res, Int.toNat_natCast, hp, ge_some, w_succ (show j < 4000000000 by omega), tab_get hj]
      rw [if_pos (by omega), if_pos (by omega), if_pos (by omega), tab_set (fun i => decide (i < j + 1) && topB pl i) (by unfold topB; rw [getD_eq hp]; simp) (fun i hi hne => by
        rw [decide_eq_decide.2 (show i < j + 1 ↔ i < j by omega)])]) 0 (tab pl.length fun _ => false) N (tab_congr fun i _ => by simp) (by omega) (by omega)
  refine e.trans ?_
  rw [hs, tab_congr (g := fun i => decide (i < pl.length) && topB pl i) (fun _ _ => rfl)]
  exact ref01_From hN hn hm hr (fun i hi => by
    rw [Bool.and_eq_true, decide_eq_true_eq] at hi
    obtain ⟨p, hp⟩ := getl hi.1
    have := hi.2
    unfold topB at this; rw [getD_eq hp] at this
    exact .top hp this) (fun i p hp h => by
    unfold topB; rw [getD_eq hp, h]
    have := (List.getElem?_eq_some_iff.1 hp).1
    simp [this]) k
end Go.Vi.B
/- minecontrol/plan.part -/
namespace Go.Vi.B
open Go.Proofs
set_option linter.unusedVariables false
set_option maxRecDepth 100000
abbrev F71.i : Sh := [(0, .agg [.lst .frz 62 kd1, .lst .frz 71 kd8])]
abbrev F71.o0 : Sh := [(0, .tup [(false, [.view 0 0]), (false, [.i])]), (1, .slot true [.lst .own 3 .i, .undef])]
noncomputable def F71.l3 {β : Type} (N : Nat) : Nat → (List Pl) → (List Ro) → (List Int) → Int → (List (Option (List Int))) → (List Ro) → Int → Int → (List Pl → List Ro → List Int → Int → (List (Option (List Int))) → List Ro → Int → Int → Bool → Option β) → Option β
 | 0, _, _, _, _, _, _, _, _, _ => none
 | n + 1, v0, v1, v2, v3, v4, v5, v6, v7, k0 =>
  bl (v7 < v6) (k0 v0 v1 v2 v3 v4 v5 v6 v7 (decide (v7 < v6))) <|
  ck (0 ≤ v7) <|
  ge (v5[v7.toNat]?) fun x1 =>
  bl (!x1.2.2.2.2.2.1) (F71.l3 N n v0 v1 v2 v3 v4 v5 v6 (w (v7 + 1)) k0) <|
  ck (0 ≤ x1.1) <|
  ge (v4[x1.1.toNat]?) fun _ =>
  ge (v4[x1.1.toNat]?) fun y3 =>
  ge (y3) fun ys4 =>
  ck (ys4.length + 1 ≤ 1000000000) <|
  ck (0 ≤ x1.1) <|
  ge ((v4.set x1.1.toNat none)[x1.1.toNat]?) fun _ =>
  ge ((v4.set x1.1.toNat none)[x1.1.toNat]?) fun x6 =>
  ge (ofL (.ow 3 (.int .i64)) (setRange (toL .own (.ow 3 (.int .i64)) x6) 0 [.lst .own 3 (.int .i64) (ys4 ++ [x1.2.1])])) fun y7 =>
  ck (0 ≤ x1.2.1) <|
  ge (((v4.set x1.1.toNat none).set x1.1.toNat y7)[x1.2.1.toNat]?) fun _ =>
  ge (((v4.set x1.1.toNat none).set x1.1.toNat y7)[x1.2.1.toNat]?) fun y9 =>
  ge (y9) fun ys10 =>
  ck (ys10.length + 1 ≤ 1000000000) <|
  ck (0 ≤ x1.2.1) <|
  ge ((((v4.set x1.1.toNat none).set x1.1.toNat y7).set x1.2.1.toNat none)[x1.2.1.toNat]?) fun _ =>
  ge ((((v4.set x1.1.toNat none).set x1.1.toNat y7).set x1.2.1.toNat none)[x1.2.1.toNat]?) fun x12 =>
  ge (ofL (.ow 3 (.int .i64)) (setRange (toL .own (.ow 3 (.int .i64)) x12) 0 [.lst .own 3 (.int .i64) (ys10 ++ [x1.1])])) fun y13 =>
  F71.l3 N n v0 v1 v2 v3 ((((v4.set x1.1.toNat none).set x1.1.toNat y7).set x1.2.1.toNat none).set x1.2.1.toNat y13) v5 v6 (w (v7 + 1)) k0
noncomputable def F71.l11 {β : Type} (N : Nat) : Nat → (List Int) → Int → (List (Option (List Int))) → (List Int) → Int → Int → (List Int → Int → (List (Option (List Int))) → List Int → Int → Int → Bool → Option β) → Option β
 | 0, _, _, _, _, _, _, _ => none
 | n + 1, v0, v1, v2, v3, v4, v5, k0 =>
  bl (v5 < v4) (k0 v0 v1 v2 v3 v4 v5 (decide (v5 < v4))) <|
  ck (0 ≤ v5) <|
  ge (v3[v5.toNat]?) fun _ =>
  ge (v3[v5.toNat]?) fun _ =>
  F71.l11 N n v0 v1 v2 (v3.set v5.toNat (-1)) v4 (w (v5 + 1)) k0
noncomputable def F71.l26 {β : Type} (N : Nat) : Nat → (List Int) → Int → (List (Option (List Int))) → (List Int) → Int → (List Int) → Int → Int → (List Int) → Int → Int → (List Int → Int → (List (Option (List Int))) → List Int → Int → List Int → Int → Int → List Int → Int → Int → Bool → Option β) → Option β
 | 0, _, _, _, _, _, _, _, _, _, _, _, _ => none
 | n + 1, v0, v1, v2, v3, v4, v5, v6, v7, v8, v9, v10, k0 =>
  bl (v10 < v9) (k0 v0 v1 v2 v3 v4 v5 v6 v7 v8 v9 v10 (decide (v10 < v9))) <|
  ck (0 ≤ v10) <|
  ge (v8[v10.toNat]?) fun _ =>
  ge (v8[v10.toNat]?) fun x2 =>
  ck (0 ≤ x2) <|
  ge (v3[x2.toNat]?) fun _ =>
  ge (v3[x2.toNat]?) fun x4 =>
  bl (x4 < 0) (F71.l26 N n v0 v1 v2 v3 v4 v5 v6 v7 v8 v9 (w (v10 + 1)) k0) <|
  ck (0 ≤ x2) <|
  ge (v3[x2.toNat]?) fun _ =>
  ge (v3[x2.toNat]?) fun _ =>
  ck (v5.length + 1 ≤ 1000000000) <|
  F71.l26 N n v0 v1 v2 (v3.set x2.toNat v4) v4 (v5 ++ [x2]) v6 v7 v8 v9 (w (v10 + 1)) k0
noncomputable def F71.l22 {β : Type} (N : Nat) : Nat → (List Int) → Int → (List (Option (List Int))) → (List Int) → Int → (List Int) → Int → Int → (List Int → Int → (List (Option (List Int))) → List Int → Int → List Int → Int → Int → Bool → Option β) → Option β
 | 0, _, _, _, _, _, _, _, _, _ => none
 | n + 1, v0, v1, v2, v3, v4, v5, v6, v7, k0 =>
  bl ((v5.length : Int) > 0) (k0 v0 v1 v2 v3 v4 v5 v6 v7 (decide ((v5.length : Int) > 0))) <|
  ck (0 ≤ (w ((v5.length : Int) - 1))) <|
  ge (v5[(w ((v5.length : Int) - 1)).toNat]?) fun _ =>
  ge (v5[(w ((v5.length : Int) - 1)).toNat]?) fun x2 =>
  ck (0 ≤ (w ((v5.length : Int) - 1))) <|
  ck ((w ((v5.length : Int) - 1)).toNat ≤ v5.length) <|
  ck (0 ≤ x2) <|
  ge (v2[x2.toNat]?) fun _ =>
  ge (v2[x2.toNat]?) fun y4 =>
  ge (y4) fun ys5 =>
  F71.l26 N N v0 v1 (v2.set x2.toNat none) v3 v4 (v5.take ((w ((v5.length : Int) - 1)).toNat)) v6 v7 ys5 (ys5.length : Int) 0 fun z7 z8 z9 z10 z11 z12 z13 z14 _ _ _ _ =>
  F71.l22 N n z7 z8 z9 z10 z11 z12 z13 z14 k0
noncomputable def F71.l17 {β : Type} (N : Nat) : Nat → (List Int) → Int → (List (Option (List Int))) → (List Int) → Int → Int → Int → (List Int → Int → (List (Option (List Int))) → List Int → Int → Int → Int → Bool → Option β) → Option β
 | 0, _, _, _, _, _, _, _, _ => none
 | n + 1, v0, v1, v2, v3, v4, v5, v6, k0 =>
  bl (v6 < v5) (k0 v0 v1 v2 v3 v4 v5 v6 (decide (v6 < v5))) <|
  ck (0 ≤ v6) <|
  ge (v3[v6.toNat]?) fun _ =>
  ge (v3[v6.toNat]?) fun x2 =>
  br (x2 ≥ 0) (F71.l17 N n v0 v1 v2 v3 v4 v5 (w (v6 + 1)) k0) <|
  ck (0 ≤ v6) <|
  ge (v3[v6.toNat]?) fun _ =>
  ge (v3[v6.toNat]?) fun _ =>
  F71.l22 N N v0 v1 v2 (v3.set v6.toNat v4) v4 [v6] v5 v6 fun z19 z20 z21 z22 z23 _ z25 z26 _ =>
  F71.l17 N n z19 z20 z21 z22 (w (z23 + 1)) z25 (w (z26 + 1)) k0
noncomputable def F71.K {β : Type} (N : Nat) (a0 : List Pl) (a1 : List Ro) (k0 : Int → List Int → Option β) : Option β :=
 ck ((a0.length : Int) = (a0.length : Int)) <|
 ck (0 ≤ (a0.length : Int)) <|
 ck ((a0.length : Int) ≤ 1000000000) <|
 F71.l3 N N a0 a1 [] 0 (List.replicate (Int.toNat (a0.length : Int)) (some [])) a1 (a1.length : Int) 0 fun z14 _ z16 z17 z18 _ _ _ _ =>
 ck ((z14.length : Int) = (z14.length : Int)) <|
 ck (0 ≤ (z14.length : Int)) <|
 ck ((z14.length : Int) ≤ 1000000000) <|
 F71.l11 N N z16 z17 z18 (List.replicate (Int.toNat (z14.length : Int)) (0 : Int)) ((List.replicate (Int.toNat (z14.length : Int)) (0 : Int)).length : Int) 0 fun z23 z24 z25 z26 _ _ _ =>
 F71.l17 N N z23 z24 z25 z26 0 (z26.length : Int) 0 fun _ _ _ z33 z34 _ _ _ =>
 k0 z34 z33
noncomputable def F71.fx : Fx := ⟨Try.prog, [], [], [(0,[1,2,3]),(1,[1,2,3,4]),(2,[1,2,3,4,20,21,22]),(3,[1,2,3,4,20,21,22,23]),(4,[1,2,3,4,6,20,21,22]),(5,[1,2,3,4,6,20,21,22,28]),(6,[1,2,3,4,6,20,21,22]),(7,[1,2,3,4,20,21,22]),(8,[1,2,3,4,20,21,22]),(9,[2,3,4,7]),(10,[2,3,4,7,61,62]),(11,[2,3,4,7,61,62,63]),(12,[2,3,4,7,8,61,62]),(13,[2,3,4,7,61,62]),(14,[2,3,4,7,61,62]),(15,[2,3,4,7,9]),(16,[2,3,4,7,9,70,71]),(17,[2,3,4,7,9,70,71,72]),(18,[2,3,4,7,9,10,70,71]),(19,[2,3,4,7,9,10,70,71,78]),(20,[2,3,4,7,9,10,70,71]),(21,[2,3,4,7,9,11,70,71]),(22,[2,3,4,7,9,11,70,71,87]),(23,[2,3,4,7,9,11,12,70,71]),(24,[2,3,4,7,9,11,12,70,71]),(25,[2,3,4,7,9,11,70,71,102,103,104]),(26,[2,3,4,7,9,11,70,71,102,103,104,105]),(27,[2,3,4,7,9,11,14,70,71,102,103,104]),(28,[2,3,4,7,9,11,14,70,71,102,103,104,112]),(29,[2,3,4,7,9,11,14,70,71,102,103,104]),(30,[2,3,4,7,9,11,70,71,102,103,104]),(31,[2,3,4,7,9,11,70,71,102,103,104]),(32,[2,3,4,7,9,70,71]),(33,[2,3,4,7,9,70,71]),(34,[2,3])], 127, []⟩
noncomputable def F71.cs (N : Nat) : List (Ctr Try.prog) := []
abbrev F71.s3 : Sh := [(2, .one (.addr 1 0)), (3, .slot false [.lst .frz 62 kd1, .lst .frz 71 kd8]), (4, .one (.view 2 0)), (5, .slot true [.lst .own 3 .i]), (6, .one .i), (8, .one (.view 4 0)), (9, .slot true [.lst .own 23 (.ow 3 .i)]), (40, .one (.lst .frz 71 kd8)), (42, .one .i), (44, .one .i)]
abbrev F71.e3_0 : Sh := [(2, .one (.addr 1 0)), (3, .slot false [.lst .frz 62 kd1, .lst .frz 71 kd8]), (4, .one (.view 2 0)), (5, .slot true [.lst .own 3 .i]), (6, .one .i), (8, .one (.view 4 0)), (9, .slot true [.lst .own 23 (.ow 3 .i)]), (40, .one (.lst .frz 71 kd8)), (42, .one .i), (44, .one .i), (46, .one .bool)]
noncomputable def F71.X3 (N : Nat) : LpC Try.prog F71.fx := mkL (F71.cs N) [] ((loopsOf (bodyOf Try.f71)).getD 0 .skip) 3 [1,2,3,4,20,21,22] (by kernel_rfl) (by kernel_rfl) (by kernel_rfl) F71.s3 (fun n x k => F71.l3 N n x.1 x.2.1 x.2.2.1 x.2.2.2.1 x.2.2.2.2.1 x.2.2.2.2.2.1 x.2.2.2.2.2.2.1 x.2.2.2.2.2.2.2.1 (fun r0 r1 r2 r3 r4 r5 r6 r7 r8 => k (.exit 0) (Sh.mk F71.e3_0 (r0, r1, r2, r3, r4, r5, r6, r7, r8, ())))) (fun _ _ => rfl) (fun _ _ _ => by kernel_rfl) N
abbrev F71.s11 : Sh := [(4, .one (.view 2 0)), (5, .slot true [.lst .own 3 .i]), (6, .one .i), (8, .one (.view 4 0)), (9, .slot true [.lst .own 23 (.ow 3 .i)]), (14, .one (.view 7 0)), (15, .slot true [.lst .own 3 .i]), (122, .one .i), (124, .one .i)]
abbrev F71.e11_0 : Sh := [(4, .one (.view 2 0)), (5, .slot true [.lst .own 3 .i]), (6, .one .i), (8, .one (.view 4 0)), (9, .slot true [.lst .own 23 (.ow 3 .i)]), (14, .one (.view 7 0)), (15, .slot true [.lst .own 3 .i]), (122, .one .i), (124, .one .i), (126, .one .bool)]
noncomputable def F71.X11 (N : Nat) : LpC Try.prog F71.fx := mkL (F71.cs N) [] ((loopsOf (bodyOf Try.f71)).getD 1 .skip) 11 [2,3,4,7,61,62] (by kernel_rfl) (by kernel_rfl) (by kernel_rfl) F71.s11 (fun n x k => F71.l11 N n x.1 x.2.1 x.2.2.1 x.2.2.2.1 x.2.2.2.2.1 x.2.2.2.2.2.1 (fun r0 r1 r2 r3 r4 r5 r6 => k (.exit 2) (Sh.mk F71.e11_0 (r0, r1, r2, r3, r4, r5, r6, ())))) (fun _ _ => rfl) (fun _ _ _ => by kernel_rfl) N
abbrev F71.s26 : Sh := [(4, .one (.view 2 0)), (5, .slot true [.lst .own 3 .i]), (6, .one .i), (8, .one (.view 4 0)), (9, .slot true [.lst .own 23 (.ow 3 .i)]), (14, .one (.view 7 0)), (15, .slot true [.lst .own 3 .i]), (18, .one .i), (22, .one (.view 11 0)), (23, .slot true [.lst .own 3 .i]), (140, .one .i), (142, .one .i), (204, .one (.view 102 0)), (205, .slot true [.lst .own 3 .i]), (206, .one .i), (208, .one .i)]
abbrev F71.e26_0 : Sh := [(4, .one (.view 2 0)), (5, .slot true [.lst .own 3 .i]), (6, .one .i), (8, .one (.view 4 0)), (9, .slot true [.lst .own 23 (.ow 3 .i)]), (14, .one (.view 7 0)), (15, .slot true [.lst .own 3 .i]), (18, .one .i), (22, .one (.view 11 0)), (23, .slot true [.lst .own 3 .i]), (140, .one .i), (142, .one .i), (204, .one (.view 102 0)), (205, .slot true [.lst .own 3 .i]), (206, .one .i), (208, .one .i), (210, .one .bool)]
noncomputable def F71.X26 (N : Nat) : LpC Try.prog F71.fx := mkL (F71.cs N) [] ((loopsOf ((loopsOf ((loopsOf (bodyOf Try.f71)).getD 2 .skip)).getD 0 .skip)).getD 0 .skip) 26 [2,3,4,7,9,11,70,71,102,103,104] (by kernel_rfl) (by kernel_rfl) (by kernel_rfl) F71.s26 (fun n x k => F71.l26 N n x.1 x.2.1 x.2.2.1 x.2.2.2.1 x.2.2.2.2.1 x.2.2.2.2.2.1 x.2.2.2.2.2.2.1 x.2.2.2.2.2.2.2.1 x.2.2.2.2.2.2.2.2.1 x.2.2.2.2.2.2.2.2.2.1 x.2.2.2.2.2.2.2.2.2.2.1 (fun r0 r1 r2 r3 r4 r5 r6 r7 r8 r9 r10 r11 => k (.exit 8) (Sh.mk F71.e26_0 (r0, r1, r2, r3, r4, r5, r6, r7, r8, r9, r10, r11, ())))) (fun _ _ => rfl) (fun _ _ _ => by kernel_rfl) N
abbrev F71.s22 : Sh := [(4, .one (.view 2 0)), (5, .slot true [.lst .own 3 .i]), (6, .one .i), (8, .one (.view 4 0)), (9, .slot true [.lst .own 23 (.ow 3 .i)]), (14, .one (.view 7 0)), (15, .slot true [.lst .own 3 .i]), (18, .one .i), (22, .one (.view 11 0)), (23, .slot true [.lst .own 3 .i]), (140, .one .i), (142, .one .i)]
abbrev F71.e22_0 : Sh := [(4, .one (.view 2 0)), (5, .slot true [.lst .own 3 .i]), (6, .one .i), (8, .one (.view 4 0)), (9, .slot true [.lst .own 23 (.ow 3 .i)]), (14, .one (.view 7 0)), (15, .slot true [.lst .own 3 .i]), (18, .one .i), (22, .one (.view 11 0)), (23, .slot true [.lst .own 3 .i]), (140, .one .i), (142, .one .i), (174, .one .bool)]
noncomputable def F71.X22 (N : Nat) : LpC Try.prog F71.fx := mkL (F71.cs N) [F71.X26 N] ((loopsOf ((loopsOf (bodyOf Try.f71)).getD 2 .skip)).getD 0 .skip) 22 [2,3,4,7,9,11,70,71] (by kernel_rfl) (by kernel_rfl) (by kernel_rfl) F71.s22 (fun n x k => F71.l22 N n x.1 x.2.1 x.2.2.1 x.2.2.2.1 x.2.2.2.2.1 x.2.2.2.2.2.1 x.2.2.2.2.2.2.1 x.2.2.2.2.2.2.2.1 (fun r0 r1 r2 r3 r4 r5 r6 r7 r8 => k (.exit 6) (Sh.mk F71.e22_0 (r0, r1, r2, r3, r4, r5, r6, r7, r8, ())))) (fun _ _ => rfl) (fun _ _ _ => by kernel_rfl) N
abbrev F71.s17 : Sh := [(4, .one (.view 2 0)), (5, .slot true [.lst .own 3 .i]), (6, .one .i), (8, .one (.view 4 0)), (9, .slot true [.lst .own 23 (.ow 3 .i)]), (14, .one (.view 7 0)), (15, .slot true [.lst .own 3 .i]), (18, .one .i), (140, .one .i), (142, .one .i)]
abbrev F71.e17_0 : Sh := [(4, .one (.view 2 0)), (5, .slot true [.lst .own 3 .i]), (6, .one .i), (8, .one (.view 4 0)), (9, .slot true [.lst .own 23 (.ow 3 .i)]), (14, .one (.view 7 0)), (15, .slot true [.lst .own 3 .i]), (18, .one .i), (140, .one .i), (142, .one .i), (144, .one .bool)]
noncomputable def F71.X17 (N : Nat) : LpC Try.prog F71.fx := mkL (F71.cs N) [F71.X22 N] ((loopsOf (bodyOf Try.f71)).getD 2 .skip) 17 [2,3,4,7,9,70,71] (by kernel_rfl) (by kernel_rfl) (by kernel_rfl) F71.s17 (fun n x k => F71.l17 N n x.1 x.2.1 x.2.2.1 x.2.2.2.1 x.2.2.2.2.1 x.2.2.2.2.2.1 x.2.2.2.2.2.2.1 (fun r0 r1 r2 r3 r4 r5 r6 r7 => k (.exit 4) (Sh.mk F71.e17_0 (r0, r1, r2, r3, r4, r5, r6, r7, ())))) (fun _ _ => rfl) (fun _ _ _ => by kernel_rfl) N
noncomputable def F71.C {β : Type} (N : Nat) := (Sealed fun β => @F71.K β).1 β N
theorem F71.C_eq {β : Type} (N : Nat) : @F71.C β N = @F71.K β N := congrFun (congrFun (Sealed fun β => @F71.K β).2 β) N
noncomputable def F71.X (N : Nat) : Ctr Try.prog := mkF 71 Try.f71 F71.fx (F71.cs N) [F71.X3 N, F71.X11 N, F71.X17 N] F71.i (fun x k => F71.C N x.1 x.2.1 (fun r0 r1 => k (Sh.mk F71.o0 (r0, r1, ())))) (by intros; rw [F71.C_eq]; kernel_rfl) (by kernel_rfl) (by kernel_rfl) (by kernel_rfl) (by kernel_rfl) rfl (by kernel_rfl) rfl (by kernel_rfl) (by kernel_rfl) (by kernel_rfl) (.dead _ 71) rfl
end Go.Vi.B
/- The groups that open roads join: what plan.part labels. -/
namespace Go.Vi.A
/-- The ends that one road gives to a place. -/
def nb1 (i : Nat) (r : Ro) : List Int := if r.2.2.2.2.2.1 = true then [] else (if r.1 = (i : Int) then [r.2.1] else []) ++ if r.2.1 = (i : Int) then [r.1] else []
def nbr (ro : List Ro) (i : Nat) : List Int := ro.flatMap (nb1 i)
theorem nb1_len (i : Nat) (r : Ro) : (nb1 i r).length ≤ 2 := by
  unfold nb1; split
  · simp
  · rw [List.length_append]; split <;> split <;> simp
theorem nbr_len (i : Nat) : ∀ ro : List Ro, (nbr ro i).length ≤ 2 * ro.length
  | [] => by simp [nbr]
  | r :: t => by
    have := nbr_len i t
    have := nb1_len i r
    unfold nbr at *
    rw [List.flatMap_cons, List.length_append, List.length_cons]; omega
theorem nbr_take {ro : List Ro} {j : Nat} {r : Ro} (h : ro[j]? = some r) (i : Nat) : nbr (ro.take (j + 1)) i = nbr (ro.take j) i ++ nb1 i r := by
  unfold nbr; rw [take_snoc h, List.flatMap_append]; simp
theorem nbr_mem {ro : List Ro} {i : Nat} {y : Int} : y ∈ nbr ro i ↔ ∃ r ∈ ro, r.2.2.2.2.2.1 = false ∧ (r.1 = (i : Int) ∧ y = r.2.1 ∨ r.2.1 = (i : Int) ∧ y = r.1) := by
  unfold nbr
  rw [List.mem_flatMap]
  refine exists_congr fun r => and_congr_right fun _ => ?_
  unfold nb1
  cases r.2.2.2.2.2.1 with
  | true => simp
  | false =>
    simp only [Bool.false_eq_true, if_false, List.mem_append, true_and]
    by_cases a : r.1 = (i : Int)
    · by_cases b : r.2.1 = (i : Int)
      · simp [a, b]
      · simp [a, b]
    · by_cases b : r.2.1 = (i : Int)
      · simp [a, b]
      · simp [a, b]
/-- What the walk through a group keeps. -/
structure Dfs (n : Nat) (ro : List Ro) (A : Nat → Bool) (c : Int) (lab : Nat → Int) (pop : Nat → Bool) (todo : List Int) : Prop where
  c0 : 0 ≤ c
  rng : ∀ i, lab i = -1 ∨ (0 ≤ lab i ∧ lab i ≤ c)
  nod : todo.Pairwise (· ≠ ·)
  tod : ∀ x ∈ todo, 0 ≤ x ∧ x < (n : Int) ∧ lab x.toNat = c ∧ pop x.toNat = false
  all : ∀ i, i < n → 0 ≤ lab i → pop i = false → (i : Int) ∈ todo
  lbd : ∀ i, pop i = true → 0 ≤ lab i
  cls : ∀ i, pop i = true → ∀ y ∈ nbr ro i, lab y.toNat = lab i
  air : ∀ i j, 0 ≤ lab i → lab i = lab j → A i = A j
  len : todo.length ≤ cnt n (fun i => decide (0 ≤ lab i))
/-- What it keeps among a place's neighbours. -/
structure Nbh (n : Nat) (ro : List Ro) (A : Nat → Bool) (c : Int) (x : Nat) (ys : List Int) (lab : Nat → Int) (pop : Nat → Bool) (todo : List Int) : Prop where
  c0 : 0 ≤ c
  hx : lab x = c
  px : pop x = true
  rng : ∀ i, lab i = -1 ∨ (0 ≤ lab i ∧ lab i ≤ c)
  nod : todo.Pairwise (· ≠ ·)
  tod : ∀ x ∈ todo, 0 ≤ x ∧ x < (n : Int) ∧ lab x.toNat = c ∧ pop x.toNat = false
  all : ∀ i, i < n → 0 ≤ lab i → pop i = false → (i : Int) ∈ todo
  lbd : ∀ i, pop i = true → 0 ≤ lab i
  cls : ∀ i, pop i = true → i ≠ x → ∀ y ∈ nbr ro i, lab y.toNat = lab i
  air : ∀ i j, 0 ≤ lab i → lab i = lab j → A i = A j
  len : todo.length ≤ cnt n (fun i => decide (0 ≤ lab i))
  don : ∀ y ∈ ys, lab y.toNat = c
theorem Nbh.old {n : Nat} {ro : List Ro} {A : Nat → Bool} {c : Int} {x : Nat} {ys : List Int} {lab : Nat → Int} {pop : Nat → Bool} {todo : List Int} (h : Nbh n ro A c x ys lab pop todo) {y : Int} (hy : y ∈ nbr ro x) (y0 : 0 ≤ y) (y1 : y < (n : Int)) (hl : 0 ≤ lab y.toNat) : Nbh n ro A c x (ys ++ [y]) lab pop todo := by
  refine { h with don := fun z hz => ?_ }
  rw [List.mem_append, List.mem_singleton] at hz
  rcases hz with hz | hz
  · exact h.don z hz
  · subst hz
    cases p : pop z.toNat with
    | false =>
      have := h.all z.toNat (by omega) hl p
      have e := (h.tod _ this).2.2.1
      rwa [Int.toNat_natCast] at e
    | true =>
      by_cases e : z.toNat = x
      · rw [e]; exact h.hx
      · obtain ⟨r, hr, hc, hh⟩ := nbr_mem.1 hy
        have := h.cls _ p e (x : Int) (nbr_mem.2 ⟨r, hr, hc, by
          rw [Int.toNat_of_nonneg y0]
          rcases hh with ⟨a, b⟩ | ⟨a, b⟩
          · exact .inr ⟨b.symm, a.symm⟩
          · exact .inl ⟨b.symm, a.symm⟩⟩)
        rw [Int.toNat_natCast, h.hx] at this
        exact this.symm
theorem Nbh.new {n : Nat} {ro : List Ro} {A : Nat → Bool} (hA : Shut ro A) {c : Int} {x : Nat} {ys : List Int} {lab : Nat → Int} {pop : Nat → Bool} {todo : List Int} (h : Nbh n ro A c x ys lab pop todo) {y : Int} (hy : y ∈ nbr ro x) (y0 : 0 ≤ y) (y1 : y < (n : Int)) (hl : lab y.toNat < 0) :
    Nbh n ro A c x (ys ++ [y]) (fun i => if i = y.toNat then c else lab i) pop (todo ++ [y]) := by
  have hc := h.c0
  have hAy : A y.toNat = A x := by
    obtain ⟨r, hr, ho, hh⟩ := nbr_mem.1 hy
    have := hA r hr ho
    rcases hh with ⟨a, b⟩ | ⟨a, b⟩
    · rw [b, ← this, a, Int.toNat_natCast]
    · rw [b, this, a, Int.toNat_natCast]
  have hpy : pop y.toNat = false := by
    cases p : pop y.toNat with
    | false => rfl
    | true => have := h.lbd _ p; omega
  have keep : ∀ i, 0 ≤ lab i → (if i = y.toNat then c else lab i) = lab i := fun i hi => by
    rw [if_neg (fun e => by subst e; omega)]
  exact
  { c0 := hc
    hx := by show (if x = y.toNat then c else lab x) = c; rw [h.hx]; split <;> rfl
    px := h.px
    rng := fun i => by
      show (if i = y.toNat then c else lab i) = -1 ∨ _
      by_cases e : i = y.toNat
      · rw [if_pos e]; exact .inr ⟨hc, Int.le_refl _⟩
      · rw [if_neg e]; exact h.rng i
    nod := List.pairwise_append.2 ⟨h.nod, by simp, fun a ha b hb e => by
      rw [List.mem_singleton] at hb
      subst e; subst hb
      have := (h.tod _ ha).2.2.1; omega⟩
    tod := fun z hz => by
      rw [List.mem_append, List.mem_singleton] at hz
      rcases hz with hz | hz
      · obtain ⟨a, b, d, e⟩ := h.tod z hz
        exact ⟨a, b, (keep _ (by omega)).trans d, e⟩
      · subst hz; exact ⟨y0, y1, if_pos rfl, hpy⟩
    all := fun i hi hli hp => by
      rw [List.mem_append, List.mem_singleton]
      by_cases e : i = y.toNat
      · right; omega
      · rw [if_neg e] at hli; exact .inl (h.all i hi hli hp)
    lbd := fun i hp => by rw [keep i (h.lbd i hp)]; exact h.lbd i hp
    cls := fun i hp hne z hz => by
      have a := h.lbd i hp
      have b := h.cls i hp hne z hz
      rw [keep i a, keep _ (by omega)]; exact b
    air := fun i j hi hij => by
      by_cases e1 : i = y.toNat
      · rw [if_pos e1] at hij
        by_cases e2 : j = y.toNat
        · rw [e1, e2]
        · rw [if_neg e2] at hij
          rw [e1, hAy]; exact h.air x j (by rw [h.hx]; exact hc) (by rw [h.hx]; exact hij)
      · rw [if_neg e1] at hi hij
        by_cases e2 : j = y.toNat
        · rw [if_pos e2] at hij
          rw [e2, hAy]; exact h.air i x hi (by rw [h.hx]; exact hij)
        · rw [if_neg e2] at hij; exact h.air i j hi hij
    len := by
      have := cnt_lt (f := fun i => decide (0 ≤ lab i)) (g := fun i => decide (0 ≤ if i = y.toNat then c else lab i)) (fun i hi => by
        rw [decide_eq_true_eq] at hi ⊢; rw [keep i hi]; exact hi) (j := y.toNat) (by rw [decide_eq_false_iff_not]; omega) (by rw [decide_eq_true_eq, if_pos rfl]; exact hc) n (by omega)
      have := h.len
      rw [List.length_append, List.length_singleton]; omega
    don := fun z hz => by
      rw [List.mem_append, List.mem_singleton] at hz
      rcases hz with hz | hz
      · have := h.don z hz; rw [keep _ (by omega)]; exact this
      · subst hz; exact if_pos rfl }
theorem Dfs.pop {n : Nat} {ro : List Ro} {A : Nat → Bool} {c : Int} {lab : Nat → Int} {pop : Nat → Bool} {t : List Int} {x : Int} (h : Dfs n ro A c lab pop (t ++ [x])) : Nbh n ro A c x.toNat [] lab (fun i => if i = x.toNat then true else pop i) t := by
  obtain ⟨x0, x1, x2, x3⟩ := h.tod x (by simp)
  have hc := h.c0
  obtain ⟨p1, p2, p3⟩ := List.pairwise_append.1 h.nod
  exact
  { c0 := hc, hx := x2, px := if_pos rfl, rng := h.rng, nod := p1
    tod := fun z hz => by
      obtain ⟨a, b, d, e⟩ := h.tod z (List.mem_append_left _ hz)
      refine ⟨a, b, d, ?_⟩
      have := p3 z hz x (by simp)
      rw [if_neg (by omega)]; exact e
    all := fun i hi hl hp => by
      by_cases e : i = x.toNat
      · rw [if_pos e] at hp; cases hp
      · rw [if_neg e] at hp
        have := h.all i hi hl hp
        rw [List.mem_append, List.mem_singleton] at this
        rcases this with g | g
        · exact g
        · omega
    lbd := fun i hp => by
      by_cases e : i = x.toNat
      · rw [e, x2]; exact hc
      · rw [if_neg e] at hp; exact h.lbd i hp
    cls := fun i hp hne => by rw [if_neg hne] at hp; exact h.cls i hp
    air := h.air
    len := by have := h.len; rw [List.length_append, List.length_singleton] at this; omega
    don := fun y hy => by simp at hy }
theorem Nbh.done {n : Nat} {ro : List Ro} {A : Nat → Bool} {c : Int} {x : Nat} {lab : Nat → Int} {pop : Nat → Bool} {todo : List Int} (h : Nbh n ro A c x (nbr ro x) lab pop todo) : Dfs n ro A c lab pop todo := by
  refine { c0 := h.c0, rng := h.rng, nod := h.nod, tod := h.tod, all := h.all, lbd := h.lbd, air := h.air, len := h.len, cls := fun i hp y hy => ?_ }
  by_cases e : i = x
  · subst e; rw [h.hx]; exact h.don y hy
  · exact h.cls i hp e y hy
end Go.Vi.A
/- plan.part: each group has its label. -/
namespace Go.Vi.B
open Go.Proofs Go.Vi.A
set_option linter.unusedVariables false
variable {N : Nat} (hN : 1000 ≤ N) {β : Type}
include hN in
theorem part_near {pl : List Pl} {ro : List Ro} (hn : pl.length ≤ 64) (hm : ro.length ≤ 128) (hr : RdOk pl.length ro) (hne : ∀ r ∈ ro, r.1 ≠ r.2.1) (K : List Pl → List Ro → List Int → Int → List (Option (List Int)) → List Ro → Int → Int → Bool → Option β) :
    F71.l3 N N pl ro [] 0 (tab pl.length fun _ => some []) ro (ro.length : Int) 0 K = K pl ro [] 0 (tab pl.length fun i => some (nbr ro i)) ro (ro.length : Int) (ro.length : Int) false := by
  obtain ⟨s, hs', e⟩ := lfor (len := ro.length) (L := fun n j (m : List (Option (List Int))) => F71.l3 N n pl ro [] 0 m ro (ro.length : Int) (j : Int) K) (k := fun m => K pl ro [] 0 m ro (ro.length : Int) (ro.length : Int) false)
    (fun j m => m = tab pl.length fun i => some (nbr (ro.take j) i))
    (fun n m hm => by simp only [F71.l3, res, Int.lt_irrefl, decide_false])
    (fun j m hj hm => by
      obtain ⟨r, hr'⟩ := getl hj
      have hmem := List.mem_of_getElem? hr'
      obtain ⟨⟨f0, f1⟩, t0, t1⟩ := hr r hmem
      have hne' := hne r hmem
      refine ⟨_, rfl, fun n => ?_⟩
      subst hm
      have en : ∀ i, nbr (ro.take (j + 1)) i = nbr (ro.take j) i ++ nb1 i r := nbr_take hr'
      simp only [F71.l3, res, Int.toNat_natCast, hr', ge_some, w_succ (show j < 4000000000 by omega), en]
      rw [if_pos (by omega), if_pos (by omega)]
      cases hc : r.2.2.2.2.2.1 with
      | true =>
        simp only [res, nb1, hc, if_true, List.append_nil]
      | false =>
        simp only [res, nb1, hc, Bool.false_eq_true, if_false]
        have hf : r.1.toNat < pl.length := by omega
        have ht : r.2.1.toNat < pl.length := by omega
        have ef : ((r.1.toNat : Nat) : Int) = r.1 := by omega
        have et : ((r.2.1.toNat : Nat) : Int) = r.2.1 := by omega
        have la := fun i => nbr_len i (ro.take j)
        rw [List.length_take] at la
        generalize hP : ro.take j = P at *
        simp only [f0, t0, if_true, tab_get hf, ge_some, List.getElem?_set_self (show r.1.toNat < (tab pl.length fun p => some (nbr P p)).length by rw [tab_len]; exact hf), List.set_set, ow_put]
        rw [if_pos (by have := la r.1.toNat; omega)]
        rw [tab_set (fun p => if p = r.1.toNat then some (nbr P r.1.toNat ++ [r.2.1]) else some (nbr P p)) (if_pos rfl) (fun k hk hn => if_neg hn)]
        simp only [tab_get ht, ge_some, List.getElem?_set_self (show r.2.1.toNat < (tab pl.length fun p => if p = r.1.toNat then some (nbr P r.1.toNat ++ [r.2.1]) else some (nbr P p)).length by rw [tab_len]; exact ht), if_neg (show ¬ r.2.1.toNat = r.1.toNat by omega)]
        rw [if_pos (by have := la r.2.1.toNat; omega)]
        rw [tab_set (fun i => some (nbr P i ++ ((if r.1 = (i : Int) then [r.2.1] else []) ++ if r.2.1 = (i : Int) then [r.1] else []))) (by
            rw [if_neg (by omega), if_pos (by omega)]; rfl) (fun k hk hn => by
            by_cases c : k = r.1.toNat
            · subst c; rw [if_pos (by omega), if_neg (by omega), if_pos rfl]; rfl
            · rw [if_neg (by omega), if_neg (by omega), if_neg c]; simp)]) 0 (tab pl.length fun _ => some []) N (tab_congr fun i _ => by simp [nbr]) (by omega) (by omega)
  refine e.trans ?_
  rw [hs', List.take_of_length_le (Nat.le_refl _)]
include hN in
/-- Among one place's neighbours. -/
theorem part_nbh {n : Nat} {ro : List Ro} {A : Nat → Bool} (hA : Shut ro A) (hn : n ≤ 64) (hm : ro.length ≤ 128) (hr : RdOk n ro) {c : Int} {x : Nat} {lab : Nat → Int} {pop : Nat → Bool} {t : List Int} (h : Nbh n ro A c x [] lab pop t) (v0 : List Int) (v1 : Int) (v2 : List (Option (List Int))) (v6 v7 : Int) :
    ∃ lab' t', Nbh n ro A c x (nbr ro x) lab' pop t' ∧ (∀ i, 0 ≤ lab i → 0 ≤ lab' i) ∧ ∀ K : List Int → Int → List (Option (List Int)) → List Int → Int → List Int → Int → Int → List Int → Int → Int → Bool → Option β,
    F71.l26 N N v0 v1 v2 (tab n lab) c t v6 v7 (nbr ro x) ((nbr ro x).length : Int) 0 K = K v0 v1 v2 (tab n lab') c t' v6 v7 (nbr ro x) ((nbr ro x).length : Int) ((nbr ro x).length : Int) false := by
  have hL := nbr_len x ro
  obtain ⟨s, ⟨lab', h1, h2, h3⟩, e⟩ := lfor (len := (nbr ro x).length) (L := fun n' j (s : List Int × List Int) => fun K : List Int → Int → List (Option (List Int)) → List Int → Int → List Int → Int → Int → List Int → Int → Int → Bool → Option β => F71.l26 N n' v0 v1 v2 s.1 c s.2 v6 v7 (nbr ro x) ((nbr ro x).length : Int) (j : Int) K)
    (k := fun s => fun K => K v0 v1 v2 s.1 c s.2 v6 v7 (nbr ro x) ((nbr ro x).length : Int) ((nbr ro x).length : Int) false)
    (fun j s => ∃ lab', s.1 = tab n lab' ∧ Nbh n ro A c x ((nbr ro x).take j) lab' pop s.2 ∧ ∀ i, 0 ≤ lab i → 0 ≤ lab' i)
    (fun n' s hs => funext fun K => by simp only [F71.l26, res, Int.lt_irrefl, decide_false])
    (fun j s hj hs => by
      obtain ⟨l1, t1⟩ := s
      obtain ⟨lab', e1, h, ho⟩ := hs
      simp only at e1 h
      subst e1
      obtain ⟨y, hy⟩ := getl hj
      have hmem := List.mem_of_getElem? hy
      have hy01 : 0 ≤ y ∧ y < (n : Int) := by
        obtain ⟨r, hr1, hc, hh⟩ := nbr_mem.1 hmem
        obtain ⟨⟨f0, f1⟩, t0, t1⟩ := hr r hr1
        rcases hh with ⟨a, b⟩ | ⟨a, b⟩ <;> subst b <;> omega
      obtain ⟨y0, y1⟩ := hy01
      by_cases hl : lab' y.toNat < 0
      · refine ⟨(tab n fun i => if i = y.toNat then c else lab' i, t1 ++ [y]), ⟨_, rfl, by rw [take_snoc hy]; exact h.new hA hmem y0 y1 hl, fun i hi => by
          have := ho i hi; have := h.c0; show 0 ≤ if i = y.toNat then c else lab' i; split <;> omega⟩, fun n' => funext fun K => ?_⟩
        have := h.len
        have := cnt_le n (fun i => decide (0 ≤ lab' i))
        simp only [F71.l26, res, Int.toNat_natCast, hy, ge_some, w_succ (show j < 4000000000 by omega), tab_get (show y.toNat < n by omega)]
        rw [if_pos (by omega), if_pos (by omega), if_pos (by omega), if_pos hl, if_pos (by omega), tab_set (fun i => if i = y.toNat then c else lab' i) (if_pos rfl) (fun k hk hn => if_neg hn), if_pos (by omega)]
      · refine ⟨(tab n lab', t1), ⟨lab', rfl, by rw [take_snoc hy]; exact h.old hmem y0 y1 (by omega), ho⟩, fun n' => funext fun K => ?_⟩
        simp only [F71.l26, res, Int.toNat_natCast, hy, ge_some, w_succ (show j < 4000000000 by omega), tab_get (show y.toNat < n by omega)]
        rw [if_pos (by omega), if_pos (by omega), if_pos (by omega), if_neg hl]) 0 (tab n lab, t) N ⟨lab, rfl, h, fun _ h => h⟩ (by omega) (by omega)
  obtain ⟨l1, t1⟩ := s
  simp only at h1 h2
  subst h1
  exact ⟨lab', t1, by rwa [List.take_of_length_le (Nat.le_refl _)] at h2, h3, fun K => congrFun e K⟩
def nearT (n : Nat) (ro : List Ro) (pop : Nat → Bool) : List (Option (List Int)) := tab n fun i => if pop i = true then none else some (nbr ro i)
theorem near_some {n i : Nat} {ro : List Ro} {pop : Nat → Bool} (h : i < n) : ((nearT n ro pop).getD i none).isSome = !pop i := by
  unfold nearT; rw [List.getD_eq_getElem?_getD, tab_get h]
  cases pop i <;> rfl
include hN in
/-- One group. -/
theorem part_group {n : Nat} {ro : List Ro} {A : Nat → Bool} (hA : Shut ro A) (hn : n ≤ 64) (hm : ro.length ≤ 128) (hr : RdOk n ro) {c : Int} {lab : Nat → Int} {pop : Nat → Bool} {t : List Int} (h : Dfs n ro A c lab pop t) (v0 : List Int) (v1 v6 v7 : Int) :
    ∃ lab' pop', Dfs n ro A c lab' pop' [] ∧ (∀ i, 0 ≤ lab i → 0 ≤ lab' i) ∧ ∀ K : List Int → Int → List (Option (List Int)) → List Int → Int → List Int → Int → Int → Bool → Option β,
    F71.l22 N N v0 v1 (nearT n ro pop) (tab n lab) c t v6 v7 K = K v0 v1 (nearT n ro pop') (tab n lab') c [] v6 v7 false := by
  obtain ⟨s, ⟨lab', pop', h1, h2, h3, h4⟩, hd, e⟩ := lwhile (L := fun n' (s : List (Option (List Int)) × List Int × List Int) => fun K : List Int → Int → List (Option (List Int)) → List Int → Int → List Int → Int → Int → Bool → Option β => F71.l22 N n' v0 v1 s.1 s.2.1 c s.2.2 v6 v7 K)
    (k := fun s => fun K => K v0 v1 s.1 s.2.1 c [] v6 v7 false)
    (fun s => ∃ lab' pop', s.1 = nearT n ro pop' ∧ s.2.1 = tab n lab' ∧ Dfs n ro A c lab' pop' s.2.2 ∧ ∀ i, 0 ≤ lab i → 0 ≤ lab' i) (fun s => s.2.2 = []) (fun s => cnt n fun i => (s.1.getD i none).isSome)
    (fun s hs => by
      obtain ⟨ne, l, t⟩ := s
      obtain ⟨lab', pop', e1, e2, h, ho⟩ := hs
      simp only at e1 e2 h
      subst e1; subst e2
      rcases List.eq_nil_or_concat t with c0 | ⟨t0, x, c0⟩
      · subst c0
        exact .inl ⟨rfl, fun n' => funext fun K => by simp only [F71.l22, res]; rw [if_neg (by simp)]; rfl⟩
      · right
        rw [List.concat_eq_append] at c0
        subst c0
        obtain ⟨x0, x1, x2, x3⟩ := h.tod x (by simp)
        obtain ⟨lab2, t2, g1, g2, g3⟩ := part_nbh (β := β) hN hA hn hm hr h.pop v0 v1 (nearT n ro fun i => if i = x.toNat then true else pop' i) v6 v7
        have hlen := h.len
        have := cnt_le n (fun i => decide (0 ≤ lab' i))
        rw [List.length_append, List.length_singleton] at hlen
        have hset : (nearT n ro pop').set x.toNat none = nearT n ro fun i => if i = x.toNat then true else pop' i := tab_set _ (by simp) (fun k hk hk' => by simp only [if_neg hk'])
        refine ⟨(nearT n ro fun i => if i = x.toNat then true else pop' i, tab n lab2, t2), ⟨lab2, _, rfl, rfl, g1.done, fun i hi => g2 i (ho i hi)⟩, ?_, fun n' => funext fun K => ?_⟩
        · refine cnt_lt (f := fun i => ((nearT n ro fun i => if i = x.toNat then true else pop' i).getD i none).isSome) (g := fun i => ((nearT n ro pop').getD i none).isSome) (fun i hi => ?_) (j := x.toNat) ?_ ?_ n (by omega)
          · by_cases c : i < n
            · rw [near_some c] at hi ⊢
              by_cases e : i = x.toNat
              · rw [if_pos e] at hi; cases hi
              · rwa [if_neg e] at hi
            · unfold nearT at hi
              rw [List.getD_eq_getElem?_getD, List.getElem?_eq_none (by rw [tab_len]; omega)] at hi; cases hi
          · rw [near_some (by omega), if_pos rfl]; rfl
          · rw [near_some (by omega), x3]; rfl
        · have hget : (nearT n ro pop')[x.toNat]? = some (some (nbr ro x.toNat)) := by
            unfold nearT; rw [tab_get (by omega), x3]; rfl
          have hw : w (((t0.length + 1 : Nat) : Int) - 1) = (t0.length : Int) := by rw [w_id (by omega) (by omega)]; omega
          simp only [F71.l22, res, List.length_append, List.length_singleton, hw, Int.toNat_natCast, List.getElem?_concat_length, ge_some, List.take_left, hget, hset, g3, x0, if_true]
          iterate 4 rw [if_pos (by omega)]) N (nearT n ro pop, tab n lab, t) ⟨lab, pop, rfl, rfl, h, fun _ h => h⟩ (by have := cnt_le n fun i => ((nearT n ro pop).getD i none).isSome; simp only; omega)
  obtain ⟨ne, l, t⟩ := s
  simp only at h1 h2 h3 hd
  subst h1; subst h2; subst hd
  exact ⟨lab', pop', h3, h4, fun K => congrFun e K⟩
/-- Between two groups. -/
structure Btw (n : Nat) (ro : List Ro) (A : Nat → Bool) (c : Int) (lab : Nat → Int) (pop : Nat → Bool) : Prop where
  rng : ∀ i, lab i = -1 ∨ (0 ≤ lab i ∧ lab i < c)
  all : ∀ i, i < n → 0 ≤ lab i → pop i = true
  lbd : ∀ i, pop i = true → 0 ≤ lab i
  cls : ∀ i, pop i = true → ∀ y ∈ nbr ro i, lab y.toNat = lab i
  air : ∀ i j, 0 ≤ lab i → lab i = lab j → A i = A j
theorem Btw.start {n : Nat} {ro : List Ro} {A : Nat → Bool} {c : Int} {lab : Nat → Int} {pop : Nat → Bool} (h : Btw n ro A c lab pop) (hc : 0 ≤ c) {j : Nat} (hj : j < n) (hl : lab j < 0) : Dfs n ro A c (fun i => if i = j then c else lab i) pop [(j : Int)] := by
  have keep : ∀ i, 0 ≤ lab i → (if i = j then c else lab i) = lab i := fun i hi => by rw [if_neg (fun e => by subst e; omega)]
  have hp : pop j = false := by
    cases p : pop j with
    | false => rfl
    | true => have := h.lbd _ p; omega
  refine { c0 := hc, rng := fun i => ?_, nod := List.pairwise_singleton _ _, tod := fun x hx => ?_, all := fun i hi h1 h2 => ?_, lbd := fun i hi => ?_, cls := fun i hi y hy => ?_, air := fun a b h1 h2 => ?_, len := ?_ }
  · show (if i = j then c else lab i) = -1 ∨ _
    by_cases e : i = j
    · rw [if_pos e]; exact .inr ⟨hc, Int.le_refl _⟩
    · rw [if_neg e]
      rcases h.rng i with g | g
      · exact .inl g
      · exact .inr ⟨g.1, by omega⟩
  · rw [List.mem_singleton] at hx; subst hx
    exact ⟨by omega, by omega, if_pos (by omega), by rw [Int.toNat_natCast]; exact hp⟩
  · rw [List.mem_singleton]
    by_cases e : i = j
    · omega
    · rw [if_neg e] at h1; rw [h.all i hi h1] at h2; cases h2
  · rw [keep i (h.lbd i hi)]; exact h.lbd i hi
  · have a := h.lbd i hi
    have b := h.cls i hi y hy
    rw [keep i a, keep _ (by omega)]; exact b
  · have ra := h.rng a
    have rb := h.rng b
    by_cases e1 : a = j
    · rw [if_pos e1] at h2
      by_cases e2 : b = j
      · rw [e1, e2]
      · rw [if_neg e2] at h2; omega
    · rw [if_neg e1] at h1 h2
      by_cases e2 : b = j
      · rw [if_pos e2] at h2; omega
      · rw [if_neg e2] at h2; exact h.air a b h1 h2
  · have := cnt_lt (f := fun _ => false) (g := fun i => decide (0 ≤ if i = j then c else lab i)) (fun i hi => by cases hi) (j := j) rfl (by rw [if_pos rfl]; exact decide_eq_true hc) n hj
    rw [List.length_singleton]; omega
theorem _root_.Go.Vi.A.Dfs.stop {n : Nat} {ro : List Ro} {A : Nat → Bool} {c : Int} {lab : Nat → Int} {pop : Nat → Bool} (h : Dfs n ro A c lab pop []) : Btw n ro A (c + 1) lab pop where
  rng i := by rcases h.rng i with g | g; exact .inl g; exact .inr ⟨g.1, by omega⟩
  all i hi hl := by
    cases p : pop i with
    | true => rfl
    | false => have := h.all i hi hl p; simp at this
  lbd := h.lbd
  cls := h.cls
  air := h.air
include hN in
theorem part_groups {n : Nat} {ro : List Ro} {A : Nat → Bool} (hA : Shut ro A) (hn : n ≤ 64) (hm : ro.length ≤ 128) (hr : RdOk n ro) (v0 : List Int) (v1 : Int) :
    ∃ c lab pop, Btw n ro A c lab pop ∧ 0 ≤ c ∧ c ≤ (n : Int) ∧ (∀ i, i < n → 0 ≤ lab i) ∧ ∀ K : List Int → Int → List (Option (List Int)) → List Int → Int → Int → Int → Bool → Option β,
    F71.l17 N N v0 v1 (nearT n ro fun _ => false) (tab n fun _ => -1) 0 (n : Int) 0 K = K v0 v1 (nearT n ro pop) (tab n lab) c (n : Int) (n : Int) false := by
  obtain ⟨s, ⟨lab, pop, h1, h2, h3, h4, h5, h6⟩, e⟩ := lfor (len := n) (L := fun n' j (s : List (Option (List Int)) × List Int × Int) => fun K : List Int → Int → List (Option (List Int)) → List Int → Int → Int → Int → Bool → Option β => F71.l17 N n' v0 v1 s.1 s.2.1 s.2.2 (n : Int) (j : Int) K)
    (k := fun s => fun K => K v0 v1 s.1 s.2.1 s.2.2 (n : Int) (n : Int) false)
    (fun j s => ∃ lab pop, s.1 = nearT n ro pop ∧ s.2.1 = tab n lab ∧ Btw n ro A s.2.2 lab pop ∧ 0 ≤ s.2.2 ∧ s.2.2 ≤ (j : Int) ∧ ∀ i, i < j → 0 ≤ lab i)
    (fun n' s hs => funext fun K => by simp only [F71.l17, res, Int.lt_irrefl, decide_false])
    (fun j s hj hs => by
      obtain ⟨ne, l, c⟩ := s
      obtain ⟨lab, pop, e1, e2, h, c0, c1, ho⟩ := hs
      simp only at e1 e2 h c0 c1
      subst e1; subst e2
      by_cases hl : 0 ≤ lab j
      · refine ⟨(nearT n ro pop, tab n lab, c), ⟨lab, pop, rfl, rfl, h, c0, by simp only; omega, fun i hi => by
          by_cases e : i = j
          · subst e; exact hl
          · exact ho i (by omega)⟩, fun n' => funext fun K => ?_⟩
        simp only [F71.l17, res, Int.toNat_natCast, ge_some, w_succ (show j < 4000000000 by omega), tab_get hj]
        rw [if_pos (by omega), if_pos (by omega), if_pos hl]
      · obtain ⟨lab', pop', g1, g2, g3⟩ := part_group (β := β) hN hA hn hm hr (h.start c0 hj (by omega)) v0 v1 (n : Int) (j : Int)
        refine ⟨(nearT n ro pop', tab n lab', c + 1), ⟨lab', pop', rfl, rfl, g1.stop, by simp only; omega, by simp only; omega, fun i hi => by
          by_cases e : i = j
          · exact g2 i (by rw [if_pos e]; exact c0)
          · exact g2 i (by rw [if_neg e]; exact ho i (by omega))⟩, fun n' => funext fun K => ?_⟩
        simp only [F71.l17, res, Int.toNat_natCast, ge_some, w_succ (show j < 4000000000 by omega), tab_get hj, tab_set (fun i => if i = j then c else lab i) (if_pos rfl) (fun k hk hn => if_neg hn), g3, w_id (x := c + 1) (by omega) (by omega)]
        rw [if_pos (by omega), if_pos (by omega), if_neg hl, if_pos (by omega)]) 0 (nearT n ro fun _ => false, tab n fun _ => -1, 0) N ⟨fun _ => -1, fun _ => false, rfl, rfl, ⟨fun _ => .inl rfl, (fun i _ hl => absurd hl (by decide)), (fun i hi => nomatch hi), (fun i hi => nomatch hi), (fun a b h => absurd h (by decide))⟩, Int.le_refl _, Int.le_refl _, fun i hi => by omega⟩ (by omega) (by omega)
  obtain ⟨ne, l, c⟩ := s
  simp only at h1 h2 h3 h4 h5
  subst h1; subst h2
  exact ⟨c, lab, pop, h3, h4, h5, h6, fun K => congrFun e K⟩
include hN in
theorem plan_part {pl : List Pl} {ro : List Ro} {A : Nat → Bool} (hA : Shut ro A) (hn : pl.length ≤ 64) (hm : ro.length ≤ 128) (hr : RdOk pl.length ro) (hne : ∀ r ∈ ro, r.1 ≠ r.2.1) :
    ∃ c lab, 0 ≤ c ∧ c ≤ (pl.length : Int) ∧ (∀ i, i < pl.length → 0 ≤ lab i ∧ lab i < c) ∧ (∀ r ∈ ro, r.2.2.2.2.2.1 = false → lab r.1.toNat = lab r.2.1.toNat) ∧ (∀ i j, i < pl.length → lab i = lab j → A i = A j) ∧
      ∀ k : Int → List Int → Option β, F71.C N pl ro k = k c (tab pl.length lab) := by
  obtain ⟨c, lab, pop, h1, h2, h3, h4, h5⟩ := part_groups (β := β) hN hA hn hm hr [] 0
  refine ⟨c, lab, h2, h3, fun i hi => ?_, fun r hr' hc => ?_, fun i j hi e => h1.air i j (h4 i hi) e, fun k => ?_⟩
  · have := h4 i hi
    rcases h1.rng i with g | g <;> omega
  · obtain ⟨⟨f0, f1⟩, t0, t1⟩ := hr r hr'
    have hi : r.1.toNat < pl.length := by omega
    exact (h1.cls _ (h1.all _ hi (h4 _ hi)) r.2.1 (nbr_mem.2 ⟨r, hr', hc, .inl ⟨by omega, rfl⟩⟩)).symm
  · rw [F71.C_eq]; unfold F71.K
    simp only [res, tab_rep, Int.toNat_natCast]
    rw [if_pos (show 0 ≤ (pl.length : Int) by omega), if_pos (show (pl.length : Int) ≤ 1000000000 by omega), part_near hN hn hm hr hne]
    rw [if_pos (show 0 ≤ (pl.length : Int) by omega), if_pos (show (pl.length : Int) ≤ 1000000000 by omega)]
    obtain ⟨s, hs, e⟩ := lfor (len := pl.length) (L := fun n' j (s : List Int) => F71.l11 N n' [] 0 (tab pl.length fun i => some (nbr ro i)) s (pl.length : Int) (j : Int) fun z23 z24 z25 z26 _ _ _ => F71.l17 N N z23 z24 z25 z26 0 (z26.length : Int) 0 fun _ _ _ z33 z34 _ _ _ => k z34 z33)
      (k := fun s => F71.l17 N N [] 0 (tab pl.length fun i => some (nbr ro i)) s 0 (s.length : Int) 0 fun _ _ _ z33 z34 _ _ _ => k z34 z33)
      (fun j s => s = tab pl.length fun i => if i < j then (-1 : Int) else 0)
      (fun n' s hs => by simp only [F71.l11, res, Int.lt_irrefl, if_false])
      (fun j s hj hs => by
        refine ⟨_, rfl, fun n' => ?_⟩
        subst hs
        simp only [F71.l11, res, Int.toNat_natCast, ge_some, w_succ (show j < 4000000000 by omega), tab_get hj]
        rw [if_pos (by omega), if_pos (by omega), tab_set (fun i => if i < j + 1 then (-1 : Int) else 0) (if_pos (by omega)) (fun k hk hn => by
          have : k < j + 1 ↔ k < j := by omega
          simp only [this])]) 0 (tab pl.length fun _ => 0) N (tab_congr fun i _ => by simp) (by omega) (by omega)
    rw [tab_len]
    refine e.trans ?_
    rw [hs, tab_len, tab_congr (g := fun _ => -1) (fun i hi => if_pos hi)]
    exact h5 fun _ _ _ z33 z34 _ _ _ => k z34 z33
end Go.Vi.B
/- minecontrol/plan.Valid -/
namespace Go.Vi.B
open Go.Proofs
set_option linter.unusedVariables false
set_option maxRecDepth 100000
abbrev F70.i : Sh := [(0, .agg [.lst .frz 62 kd1, .lst .frz 71 kd8])]
abbrev F70.o0 : Sh := [(0, .one .bool)]
noncomputable def F70.K {β : Type} (N : Nat) (a0 : List Pl) (a1 : List Ro) (k0 : Bool → Option β) : Option β :=
 F55.C N a0 a1 fun r1 =>
 k0 (decide (r1 = 0))
noncomputable def F70.fx : Fx := ⟨Try.prog, [], [], [(0,[1]),(1,[2])], 6, []⟩
noncomputable def F70.cs (N : Nat) : List (Ctr Try.prog) := [F55.X N]
noncomputable def F70.C {β : Type} (N : Nat) := (Sealed fun β => @F70.K β).1 β N
theorem F70.C_eq {β : Type} (N : Nat) : @F70.C β N = @F70.K β N := congrFun (congrFun (Sealed fun β => @F70.K β).2 β) N
noncomputable def F70.X (N : Nat) : Ctr Try.prog := mkF 70 Try.f70 F70.fx (F70.cs N) [] F70.i (fun x k => F70.C N x.1 x.2.1 (fun r0 => k (Sh.mk F70.o0 (r0, ())))) (by intros; rw [F70.C_eq]; kernel_rfl) (by kernel_rfl) (by kernel_rfl) (by kernel_rfl) (by kernel_rfl) rfl (by kernel_rfl) rfl (by kernel_rfl) (by kernel_rfl) (by kernel_rfl) (.dead _ 70) rfl
end Go.Vi.B
/- minecontrol/plan.CutOff -/
namespace Go.Vi.B
open Go.Proofs
set_option linter.unusedVariables false
set_option maxRecDepth 100000
abbrev F58.i : Sh := [(0, .agg [.lst .frz 62 kd1, .lst .frz 71 kd8])]
abbrev F58.o0 : Sh := [(0, .one (.view 0 0)), (1, .slot true [.lst .own 3 .i])]
noncomputable def F58.l6 {β : Type} (N : Nat) : Nat → (List Pl) → (List Ro) → (List Int) → (List Int) → (List Bool) → (List Pl) → Int → Int → (List Pl → List Ro → List Int → List Int → List Bool → List Pl → Int → Int → Bool → Option β) → Option β
 | 0, _, _, _, _, _, _, _, _, _ => none
 | n + 1, v0, v1, v2, v3, v4, v5, v6, v7, k0 =>
  bl (v7 < v6) (k0 v0 v1 v2 v3 v4 v5 v6 v7 (decide (v7 < v6))) <|
  ck (0 ≤ v7) <|
  ge (v5[v7.toNat]?) fun x1 =>
  bl (x1.2) (F58.l6 N n v0 v1 v2 v3 v4 v5 v6 (w (v7 + 1)) k0) <|
  ck (0 ≤ v7) <|
  ge (v3[v7.toNat]?) fun _ =>
  ge (v3[v7.toNat]?) fun x3 =>
  ck (0 ≤ x3) <|
  ge (v4[x3.toNat]?) fun _ =>
  ge (v4[x3.toNat]?) fun _ =>
  F58.l6 N n v0 v1 v2 v3 (v4.set x3.toNat true) v5 v6 (w (v7 + 1)) k0
noncomputable def F58.l13 {β : Type} (N : Nat) : Nat → (List Int) → (List Int) → (List Bool) → (List Int) → Int → Int → (List Int → List Int → List Bool → List Int → Int → Int → Bool → Option β) → Option β
 | 0, _, _, _, _, _, _, _ => none
 | n + 1, v0, v1, v2, v3, v4, v5, k0 =>
  bl (v5 < v4) (k0 v0 v1 v2 v3 v4 v5 (decide (v5 < v4))) <|
  ck (0 ≤ v5) <|
  ge (v1[v5.toNat]?) fun _ =>
  ge (v1[v5.toNat]?) fun x2 =>
  ck (0 ≤ x2) <|
  ge (v2[x2.toNat]?) fun _ =>
  ge (v2[x2.toNat]?) fun x4 =>
  bl (!x4) (F58.l13 N n v0 v1 v2 v3 v4 (w (v5 + 1)) k0) <|
  ck (v3.length + 1 ≤ 1000000000) <|
  F58.l13 N n v0 v1 v2 (v3 ++ [v5]) v4 (w (v5 + 1)) k0
noncomputable def F58.K {β : Type} (N : Nat) (a0 : List Pl) (a1 : List Ro) (k0 : List Int → Option β) : Option β :=
 F70.C N a0 a1 fun r1 =>
 br (!r1) (k0 []) <|
 F71.C N a0 a1 fun r2 r3 =>
 ck (r2 = r2) <|
 ck (0 ≤ r2) <|
 ck (r2 ≤ 1000000000) <|
 F58.l6 N N a0 a1 [] r3 (List.replicate (Int.toNat r2) false) a0 (a0.length : Int) 0 fun z6 _ z8 z9 z10 _ _ _ _ =>
 F58.l13 N N z8 z9 z10 [] (z6.length : Int) 0 fun _ _ _ z18 _ _ _ =>
 k0 z18
noncomputable def F58.fx : Fx := ⟨Try.prog, [], [], [(0,[1,2]),(1,[1,2,12]),(2,[2]),(3,[1,2,3,4]),(4,[1,2,3,5]),(5,[1,2,3,5,21,22,23]),(6,[1,2,3,5,21,22,23,24]),(7,[1,2,3,5,6,7,21,22,23]),(8,[1,2,3,5,6,21,22,23,29]),(9,[1,2,3,5,21,22,23]),(10,[1,2,3,5,21,22,23]),(11,[1,2,3,5,8]),(12,[2,3,5,8,39,40]),(13,[2,3,5,8,39,40,41]),(14,[2,3,5,8,9,39,40]),(15,[2,3,5,8,9,39,40,50]),(16,[2,3,5,8,39,40]),(17,[2,3,5,8,39,40]),(18,[2])], 57, []⟩
noncomputable def F58.cs (N : Nat) : List (Ctr Try.prog) := [F70.X N, F71.X N]
abbrev F58.s6 : Sh := [(2, .one (.addr 1 0)), (3, .slot false [.lst .frz 62 kd1, .lst .frz 71 kd8]), (4, .one (.view 2 0)), (5, .slot true [.lst .own 3 .i]), (6, .one (.view 3 0)), (7, .slot true [.lst .own 3 .i]), (10, .one (.view 5 0)), (11, .slot true [.lst .own 4 .bool]), (42, .one (.lst .frz 62 kd1)), (44, .one .i), (46, .one .i)]
abbrev F58.e6_0 : Sh := [(2, .one (.addr 1 0)), (3, .slot false [.lst .frz 62 kd1, .lst .frz 71 kd8]), (4, .one (.view 2 0)), (5, .slot true [.lst .own 3 .i]), (6, .one (.view 3 0)), (7, .slot true [.lst .own 3 .i]), (10, .one (.view 5 0)), (11, .slot true [.lst .own 4 .bool]), (42, .one (.lst .frz 62 kd1)), (44, .one .i), (46, .one .i), (48, .one .bool)]
noncomputable def F58.X6 (N : Nat) : LpC Try.prog F58.fx := mkL (F58.cs N) [] ((loopsOf (bodyOf Try.f58)).getD 0 .skip) 6 [1,2,3,5,21,22,23] (by kernel_rfl) (by kernel_rfl) (by kernel_rfl) F58.s6 (fun n x k => F58.l6 N n x.1 x.2.1 x.2.2.1 x.2.2.2.1 x.2.2.2.2.1 x.2.2.2.2.2.1 x.2.2.2.2.2.2.1 x.2.2.2.2.2.2.2.1 (fun r0 r1 r2 r3 r4 r5 r6 r7 r8 => k (.exit 0) (Sh.mk F58.e6_0 (r0, r1, r2, r3, r4, r5, r6, r7, r8, ())))) (fun _ _ => rfl) (fun _ _ _ => by kernel_rfl) N
abbrev F58.s13 : Sh := [(4, .one (.view 2 0)), (5, .slot true [.lst .own 3 .i]), (6, .one (.view 3 0)), (7, .slot true [.lst .own 3 .i]), (10, .one (.view 5 0)), (11, .slot true [.lst .own 4 .bool]), (16, .one (.view 8 0)), (17, .slot true [.lst .own 3 .i]), (78, .one .i), (80, .one .i)]
abbrev F58.e13_0 : Sh := [(4, .one (.view 2 0)), (5, .slot true [.lst .own 3 .i]), (6, .one (.view 3 0)), (7, .slot true [.lst .own 3 .i]), (10, .one (.view 5 0)), (11, .slot true [.lst .own 4 .bool]), (16, .one (.view 8 0)), (17, .slot true [.lst .own 3 .i]), (78, .one .i), (80, .one .i), (82, .one .bool)]
noncomputable def F58.X13 (N : Nat) : LpC Try.prog F58.fx := mkL (F58.cs N) [] ((loopsOf (bodyOf Try.f58)).getD 1 .skip) 13 [2,3,5,8,39,40] (by kernel_rfl) (by kernel_rfl) (by kernel_rfl) F58.s13 (fun n x k => F58.l13 N n x.1 x.2.1 x.2.2.1 x.2.2.2.1 x.2.2.2.2.1 x.2.2.2.2.2.1 (fun r0 r1 r2 r3 r4 r5 r6 => k (.exit 2) (Sh.mk F58.e13_0 (r0, r1, r2, r3, r4, r5, r6, ())))) (fun _ _ => rfl) (fun _ _ _ => by kernel_rfl) N
noncomputable def F58.C {β : Type} (N : Nat) := (Sealed fun β => @F58.K β).1 β N
theorem F58.C_eq {β : Type} (N : Nat) : @F58.C β N = @F58.K β N := congrFun (congrFun (Sealed fun β => @F58.K β).2 β) N
noncomputable def F58.X (N : Nat) : Ctr Try.prog := mkF 58 Try.f58 F58.fx (F58.cs N) [F58.X6 N, F58.X13 N] F58.i (fun x k => F58.C N x.1 x.2.1 (fun r0 => k (Sh.mk F58.o0 (r0, ())))) (by intros; rw [F58.C_eq]; kernel_rfl) (by kernel_rfl) (by kernel_rfl) (by kernel_rfl) (by kernel_rfl) rfl (by kernel_rfl) rfl (by kernel_rfl) (by kernel_rfl) (by kernel_rfl) (.dead _ 58) rfl
end Go.Vi.B
/- minecontrol/certify.Lost -/
namespace Go.Vi.B
open Go.Proofs
set_option linter.unusedVariables false
set_option maxRecDepth 100000
abbrev F32.i : Sh := [(0, .agg [.lst .frz 62 kd1, .lst .frz 71 kd8])]
abbrev F32.o0 : Sh := [(0, .one (.view 0 0)), (1, .slot true [.lst .own 4 .bool])]
noncomputable def F32.l3 {β : Type} (N : Nat) : Nat → (List Bool) → (List Bool) → (List Int) → Int → Int → (List Bool → List Bool → List Int → Int → Int → Bool → Option β) → Option β
 | 0, _, _, _, _, _, _ => none
 | n + 1, v0, v1, v2, v3, v4, k0 =>
  bl (v4 < v3) (k0 v0 v1 v2 v3 v4 (decide (v4 < v3))) <|
  ck (0 ≤ v4) <|
  ge (v2[v4.toNat]?) fun _ =>
  ge (v2[v4.toNat]?) fun x2 =>
  ck (0 ≤ x2) <|
  ge (v1[x2.toNat]?) fun _ =>
  ge (v1[x2.toNat]?) fun _ =>
  F32.l3 N n v0 (v1.set x2.toNat true) v2 v3 (w (v4 + 1)) k0
noncomputable def F32.K {β : Type} (N : Nat) (a0 : List Pl) (a1 : List Ro) (k0 : List Bool → Option β) : Option β :=
 ck ((a0.length : Int) = (a0.length : Int)) <|
 ck (0 ≤ (a0.length : Int)) <|
 ck ((a0.length : Int) ≤ 1000000000) <|
 F58.C N a0 a1 fun r1 =>
 F32.l3 N N [] (List.replicate (Int.toNat (a0.length : Int)) false) r1 (r1.length : Int) 0 fun _ z6 _ _ _ _ =>
 k0 z6
noncomputable def F32.fx : Fx := ⟨Try.prog, [], [], [(0,[1,2]),(1,[1,2,3]),(2,[2,3,11,12,13]),(3,[2,3,11,12,13,14]),(4,[2,3,5,11,12,13]),(5,[2,3,11,12,13]),(6,[2,3,11,12,13]),(7,[2])], 22, []⟩
noncomputable def F32.cs (N : Nat) : List (Ctr Try.prog) := [F58.X N]
abbrev F32.s3 : Sh := [(4, .one (.view 2 0)), (5, .slot true [.lst .own 4 .bool]), (6, .one (.view 3 0)), (7, .slot true [.lst .own 4 .bool]), (22, .one (.view 11 0)), (23, .slot true [.lst .own 3 .i]), (24, .one .i), (26, .one .i)]
abbrev F32.e3_0 : Sh := [(4, .one (.view 2 0)), (5, .slot true [.lst .own 4 .bool]), (6, .one (.view 3 0)), (7, .slot true [.lst .own 4 .bool]), (22, .one (.view 11 0)), (23, .slot true [.lst .own 3 .i]), (24, .one .i), (26, .one .i), (28, .one .bool)]
noncomputable def F32.X3 (N : Nat) : LpC Try.prog F32.fx := mkL (F32.cs N) [] ((loopsOf (bodyOf Try.f32)).getD 0 .skip) 3 [2,3,11,12,13] (by kernel_rfl) (by kernel_rfl) (by kernel_rfl) F32.s3 (fun n x k => F32.l3 N n x.1 x.2.1 x.2.2.1 x.2.2.2.1 x.2.2.2.2.1 (fun r0 r1 r2 r3 r4 r5 => k (.exit 0) (Sh.mk F32.e3_0 (r0, r1, r2, r3, r4, r5, ())))) (fun _ _ => rfl) (fun _ _ _ => by kernel_rfl) N
noncomputable def F32.C {β : Type} (N : Nat) := (Sealed fun β => @F32.K β).1 β N
theorem F32.C_eq {β : Type} (N : Nat) : @F32.C β N = @F32.K β N := congrFun (congrFun (Sealed fun β => @F32.K β).2 β) N
noncomputable def F32.X (N : Nat) : Ctr Try.prog := mkF 32 Try.f32 F32.fx (F32.cs N) [F32.X3 N] F32.i (fun x k => F32.C N x.1 x.2.1 (fun r0 => k (Sh.mk F32.o0 (r0, ())))) (by intros; rw [F32.C_eq]; kernel_rfl) (by kernel_rfl) (by kernel_rfl) (by kernel_rfl) (by kernel_rfl) rfl (by kernel_rfl) rfl (by kernel_rfl) (by kernel_rfl) (by kernel_rfl) (.dead _ 32) rfl
end Go.Vi.B
