/- Lemmas for the proofs of this seat's statements, part 5; each holds without conditions beyond its own premises. -/
import Derived.Test.YtmidpecdjddlkaaZd
/- Which places are cut off from the surface. -/
namespace Go.Vi.A
theorem shut_air (pl : List Pl) (ro : List Ro) : Shut ro (airB pl ro) := fun r hr hc => by
  cases a : airB pl ro r.1.toNat with
  | true => exact (airB_true.2 (.out hr hc (airB_true.1 a))).symm
  | false =>
    cases b : airB pl ro r.2.1.toNat with
    | false => rfl
    | true => exact absurd (airB_true.2 (.back hr hc (airB_true.1 b))) (by rw [a]; decide)
/-- The labels that a surface place among the first has. -/
def opn (pl : List Pl) (lab : Nat → Int) (j : Nat) (l : Nat) : Bool := (List.range j).any fun i => topB pl i && decide ((lab i).toNat = l)
theorem opn_succ (pl : List Pl) (lab : Nat → Int) (j l : Nat) : opn pl lab (j + 1) l = (opn pl lab j l || (topB pl j && decide ((lab j).toNat = l))) := by
  unfold opn; rw [List.range_succ, List.any_append]; simp
theorem opn_air {pl : List Pl} {ro : List Ro} (hr : RdOk pl.length ro) {lab : Nat → Int} {c : Int} (h0 : ∀ i, i < pl.length → 0 ≤ lab i ∧ lab i < c) (h1 : ∀ r ∈ ro, r.2.2.2.2.2.1 = false → lab r.1.toNat = lab r.2.1.toNat) (h2 : ∀ i j, i < pl.length → lab i = lab j → airB pl ro i = airB pl ro j) {i : Nat} (hi : i < pl.length) :
    opn pl lab pl.length (lab i).toNat = airB pl ro i := by
  have := air_of_shut (pl := pl) (ro := ro) (f := fun i => decide (i < pl.length) && opn pl lab pl.length (lab i).toNat) (fun i p hp ht => by
    have hl := (List.getElem?_eq_some_iff.1 hp).1
    simp only [hl, decide_true, Bool.true_and]
    unfold opn
    rw [List.any_eq_true]
    exact ⟨i, List.mem_range.2 hl, by unfold topB; rw [getD_eq hp, ht]; simp⟩) (fun i hi => by
    rw [Bool.and_eq_true, decide_eq_true_eq] at hi
    obtain ⟨hl, ho⟩ := hi
    unfold opn at ho
    rw [List.any_eq_true] at ho
    obtain ⟨s, hs, hh⟩ := ho
    rw [List.mem_range] at hs
    rw [Bool.and_eq_true, decide_eq_true_eq] at hh
    obtain ⟨ht, he⟩ := hh
    have a1 := h0 i hl
    have a2 := h0 s hs
    have e := h2 s i hs (by omega)
    obtain ⟨p, hp⟩ := getl hs
    unfold topB at ht; rw [getD_eq hp] at ht
    exact airB_true.1 (e ▸ airB_true.2 (.top hp ht))) (fun r hr' hc => by
    obtain ⟨⟨f0, f1⟩, t0, t1⟩ := hr r hr'
    simp only [h1 r hr' hc, show r.1.toNat < pl.length by omega, show r.2.1.toNat < pl.length by omega]) i
  simp only [hi, decide_true, Bool.true_and] at this
  exact this
/-- The places that are cut off, in their order. -/
noncomputable def cutL (pl : List Pl) (ro : List Ro) (n : Nat) : List Int := ((List.range n).filter fun i => !airB pl ro i).map fun i => ((i : Nat) : Int)
theorem cutL_succ (pl : List Pl) (ro : List Ro) (n : Nat) : cutL pl ro (n + 1) = cutL pl ro n ++ if airB pl ro n = true then [] else [(n : Int)] := by
  unfold cutL
  rw [List.range_succ, List.filter_append, List.map_append]
  cases h : airB pl ro n <;> simp [h]
theorem cutL_len (pl : List Pl) (ro : List Ro) (n : Nat) : (cutL pl ro n).length ≤ n := by
  unfold cutL; rw [List.length_map]; exact Nat.le_trans (List.length_filter_le _ _) (by simp)
theorem cutL_mem {pl : List Pl} {ro : List Ro} {n : Nat} {i : Nat} : (i : Int) ∈ cutL pl ro n ↔ i < n ∧ airB pl ro i = false := by
  unfold cutL
  rw [List.mem_map]
  constructor
  · rintro ⟨k, hk, e⟩
    rw [List.mem_filter, List.mem_range, Bool.not_eq_true'] at hk
    have : k = i := by omega
    subst this; exact hk
  · rintro ⟨a, b⟩
    exact ⟨i, by rw [List.mem_filter, List.mem_range, Bool.not_eq_true']; exact ⟨a, b⟩, rfl⟩
theorem cutL_rng {pl : List Pl} {ro : List Ro} {n : Nat} {x : Int} (h : x ∈ cutL pl ro n) : 0 ≤ x ∧ x < (n : Int) := by
  unfold cutL at h
  rw [List.mem_map] at h
  obtain ⟨k, hk, e⟩ := h
  rw [List.mem_filter, List.mem_range] at hk
  omega
end Go.Vi.A
namespace Go.Vi.B
open Go.Proofs Go.Vi.A
set_option linter.unusedVariables false
variable {N : Nat} (hN : 1000 ≤ N) {β : Type}
include hN in
theorem plan_CutOff {pl : List Pl} {ro : List Ro} {fa : List Fa} {dr : List Do} (h0 : airE pl ro fa dr = 0) (k : List Int → Option β) : F58.C N pl ro k = k (cutL pl ro pl.length) := by
  have h := AirOk.of h0
  have hn := h.npl
  have hm := h.nro
  have hr := h.rd
  have hz : mineE pl ro = 0 := by unfold airE at h0; exact (thn_zero.1 h0).1
  obtain ⟨c, lab, c0, c1, g1, g2, g3, g4⟩ := plan_part (β := β) hN (shut_air pl ro) hn hm hr (fun r hr' => (h.road r hr').ne)
  rw [F58.C_eq]; unfold F58.K
  rw [F70.C_eq]; unfold F70.K
  rw [plan_Check hN]
  simp only [res, hz, decide_true, g4, tab_rep]
  rw [if_pos (by omega), if_pos (by omega)]
  obtain ⟨s, hs, e⟩ := lfor (len := pl.length) (L := fun n' j (s : List Bool) => F58.l6 N n' pl ro [] (tab pl.length lab) s pl (pl.length : Int) (j : Int) fun z6 _ z8 z9 z10 _ _ _ _ => F58.l13 N N z8 z9 z10 [] (z6.length : Int) 0 fun _ _ _ z18 _ _ _ => k z18)
    (k := fun s => F58.l13 N N [] (tab pl.length lab) s [] (pl.length : Int) 0 fun _ _ _ z18 _ _ _ => k z18)
    (fun j s => s = tab c.toNat fun l => opn pl lab j l)
    (fun n' s hs => by simp only [F58.l6, res, Int.lt_irrefl, if_false])
    (fun j s hj hs => by
      obtain ⟨p, hp⟩ := getl hj
      obtain ⟨l0, l1⟩ := g1 j hj
      refine ⟨_, rfl, fun n' => ?_⟩
      subst hs
      have et : topB pl j = p.2 := by unfold topB; rw [getD_eq hp]
      simp only [F58.l6, res, Int.toNat_natCast, hp, ge_some, w_succ (show j < 4000000000 by omega), opn_succ, et]
      rw [if_pos (by omega), if_pos (by omega)]
      cases ht : p.2 with
      | false => simp only [res, Bool.false_and, Bool.or_false]
      | true =>
        simp only [res, tab_get hj, ge_some, l0, if_true, tab_get (show (lab j).toNat < c.toNat by omega)]
        rw [if_pos (by omega), tab_set (fun l => opn pl lab j l || (true && decide ((lab j).toNat = l))) (by simp) (fun k hk hne => by rw [decide_eq_false (fun e => hne e.symm)]; simp)]) 0 (tab c.toNat fun _ => false) N (tab_congr fun i _ => by simp [opn]) (by omega) (by omega)
  refine e.trans ?_
  subst hs
  obtain ⟨s, hs, e⟩ := lfor (len := pl.length) (L := fun n' j (s : List Int) => F58.l13 N n' [] (tab pl.length lab) (tab c.toNat fun l => opn pl lab pl.length l) s (pl.length : Int) (j : Int) fun _ _ _ z18 _ _ _ => k z18)
    (k := k) (fun j s => s = cutL pl ro j)
    (fun n' s hs => by simp only [F58.l13, res, Int.lt_irrefl, if_false])
    (fun j s hj hs => by
      obtain ⟨l0, l1⟩ := g1 j hj
      refine ⟨_, rfl, fun n' => ?_⟩
      subst hs
      have hl := cutL_len pl ro j
      simp only [F58.l13, res, Int.toNat_natCast, ge_some, w_succ (show j < 4000000000 by omega), tab_get hj, l0, if_true, tab_get (show (lab j).toNat < c.toNat by omega), opn_air hr g1 g2 g3 hj, cutL_succ]
      rw [if_pos (by omega), if_pos (by omega)]
      cases airB pl ro j with
      | true => simp only [res, if_true, List.append_nil]
      | false => simp only [res, Bool.false_eq_true, if_false]; rw [if_pos (by omega)]) 0 [] N (by simp [cutL]) (by omega) (by omega)
  refine e.trans ?_
  rw [hs]
include hN in
theorem certify_Lost {pl : List Pl} {ro : List Ro} {fa : List Fa} {dr : List Do} (h0 : airE pl ro fa dr = 0) (k : List Bool → Option β) : F32.C N pl ro k = k (tab pl.length fun i => !airB pl ro i) := by
  have h := AirOk.of h0
  have hn := h.npl
  rw [F32.C_eq]; unfold F32.K
  simp only [res, tab_rep, Int.toNat_natCast, plan_CutOff hN h0]
  rw [if_pos (show 0 ≤ (pl.length : Int) by omega), if_pos (show (pl.length : Int) ≤ 1000000000 by omega)]
  have hl := cutL_len pl ro pl.length
  obtain ⟨s, hs, e⟩ := lfor (len := (cutL pl ro pl.length).length) (L := fun n' j (s : List Bool) => F32.l3 N n' [] s (cutL pl ro pl.length) ((cutL pl ro pl.length).length : Int) (j : Int) fun _ z6 _ _ _ _ => k z6) (k := k)
    (fun j s => s = tab pl.length fun i => decide ((i : Int) ∈ (cutL pl ro pl.length).take j))
    (fun n' s hs => by simp only [F32.l3, res, Int.lt_irrefl, if_false])
    (fun j s hj hs => by
      obtain ⟨x, hx⟩ := getl hj
      obtain ⟨x0, x1⟩ := cutL_rng (List.mem_of_getElem? hx)
      refine ⟨_, rfl, fun n' => ?_⟩
      subst hs
      simp only [F32.l3, res, Int.toNat_natCast, hx, ge_some, w_succ (show j < 4000000000 by omega), tab_get (show x.toNat < pl.length by omega)]
      rw [if_pos (by omega), if_pos (by omega), if_pos (by omega), tab_set (fun i => decide ((i : Int) ∈ (cutL pl ro pl.length).take (j + 1))) (by
        rw [take_snoc hx, decide_eq_true_eq, Int.toNat_of_nonneg x0]; simp) (fun k hk hne => by
        rw [take_snoc hx]
        refine decide_eq_decide.2 ?_
        rw [List.mem_append, List.mem_singleton]
        constructor
        · rintro (a | a)
          · exact a
          · omega
        · exact .inl)]) 0 (tab pl.length fun _ => false) N (tab_congr fun i _ => by simp) (by omega) (by omega)
  refine e.trans ?_
  rw [hs]
  refine congrArg k (tab_congr fun i hi => ?_)
  rw [List.take_of_length_le (Nat.le_refl _)]
  cases a : airB pl ro i with
  | true => exact decide_eq_false fun g => by rw [(cutL_mem.1 g).2] at a; cases a
  | false => exact decide_eq_true (cutL_mem.2 ⟨hi, a⟩)
end Go.Vi.B
/- minecontrol/certify.Check -/
namespace Go.Vi.B
open Go.Proofs
set_option linter.unusedVariables false
set_option maxRecDepth 100000
abbrev F12.i : Sh := [(0, .agg [.lst .frz 62 kd1, .lst .frz 71 kd8, .lst .frz 100 kd11, .lst .frz 55 kd13]), (2, .agg [.lst .frz 3 .i, .lst .frz 3 .i]), (4, .agg [.lst .frz 3 .i, .lst .frz 3 .i])]
abbrev F12.o0 : Sh := [(0, .one .i)]
noncomputable def F12.l12 {β : Type} (N : Nat) : Nat → (List Pl) → (List Ro) → (List Fa) → (List Do) → (List Int) → (List Int) → (List Int) → (List Int) → Int → Int → Int → (List Int) → Int → Int → (Int → Option β) → (List Pl → List Ro → List Fa → List Do → List Int → List Int → List Int → List Int → Int → Int → Int → List Int → Int → Int → Bool → Option β) → Option β
 | 0, _, _, _, _, _, _, _, _, _, _, _, _, _, _, _, _ => none
 | n + 1, v0, v1, v2, v3, v4, v5, v6, v7, v8, v9, v10, v11, v12, v13, k0, k1 =>
  bl (v13 < v12) (k1 v0 v1 v2 v3 v4 v5 v6 v7 v8 v9 v10 v11 v12 v13 (decide (v13 < v12))) <|
  ck (0 ≤ v13) <|
  ge (v11[v13.toNat]?) fun _ =>
  ge (v11[v13.toNat]?) fun x2 =>
  br (x2 < (-70368744177664)) (k0 1) <|
  br (x2 > 70368744177664) (k0 1) <|
  F12.l12 N n v0 v1 v2 v3 v4 v5 v6 v7 v8 v9 v10 v11 v12 (w (v13 + 1)) k0 k1
noncomputable def F12.l9 {β : Type} (N : Nat) : Nat → (List Pl) → (List Ro) → (List Fa) → (List Do) → (List Int) → (List Int) → (List Int) → (List Int) → Int → Int → Int → (Int → Option β) → (List Pl → List Ro → List Fa → List Do → List Int → List Int → List Int → List Int → Int → Int → Int → Bool → Option β) → Option β
 | 0, _, _, _, _, _, _, _, _, _, _, _, _, _ => none
 | n + 1, v0, v1, v2, v3, v4, v5, v6, v7, v8, v9, v10, k0, k1 =>
  bl (v10 < v9) (k1 v0 v1 v2 v3 v4 v5 v6 v7 v8 v9 v10 (decide (v10 < v9))) <|
  ck (0 ≤ v10) <|
  ge (v6[v10.toNat]?) fun x1 =>
  ck (0 ≤ v10) <|
  ge (v7[v10.toNat]?) fun x2 =>
  F12.l12 N N v0 v1 v2 v3 v4 v5 v6 v7 v8 v9 v10 [x1, x2] ([x1, x2].length : Int) 0 (fun z3 => k0 z3) fun z4 z5 z6 z7 z8 z9 z10 z11 z12 z13 z14 _ _ _ _ =>
  F12.l9 N n z4 z5 z6 z7 z8 z9 z10 z11 z12 z13 (w (z14 + 1)) k0 k1
noncomputable def F12.l21 {β : Type} (N : Nat) : Nat → (List Int) → (List Int) → Int → (List Bool) → (List (Ro × (Int × (List (Fa × Int))))) → (List (Option (List Int))) → (List Pl) → Int → Int → (Int → Option β) → (List Int → List Int → Int → List Bool → (List (Ro × (Int × (List (Fa × Int))))) → (List (Option (List Int))) → List Pl → Int → Int → Bool → Option β) → Option β
 | 0, _, _, _, _, _, _, _, _, _, _, _ => none
 | n + 1, v0, v1, v2, v3, v4, v5, v6, v7, v8, k0, k1 =>
  bl (v8 < v7) (k1 v0 v1 v2 v3 v4 v5 v6 v7 v8 (decide (v8 < v7))) <|
  ck (0 ≤ v8) <|
  ge (v6[v8.toNat]?) fun x1 =>
  br (x1.2) (
   ck (0 ≤ v8) <|
   ge (v0[v8.toNat]?) fun x2 =>
   br (x2 != 0) (k0 12) <|
   ck (0 ≤ v8) <|
   ge (v1[v8.toNat]?) fun x3 =>
   br (x3 != 0) (k0 12) <|
   F12.l21 N n v0 v1 v2 v3 v4 v5 v6 v7 (w (v8 + 1)) k0 k1) <|
  ck (0 ≤ v8) <|
  ge (v3[v8.toNat]?) fun _ =>
  ge (v3[v8.toNat]?) fun x5 =>
  bl x5 (
   F34.C N v4 v5 v1 v8 fun r8 =>
   br (r8 < 0) (k0 12) <|
   F35.C N v4 v5 v0 v8 fun r9 =>
   br (r9 > 0) (k0 12) <|
   F12.l21 N n v0 v1 v2 v3 v4 v5 v6 v7 (w (v8 + 1)) k0 k1) <|
  ck (0 ≤ v8) <|
  ge (v0[v8.toNat]?) fun x6 =>
  br (x6 != 0) (k0 12) <|
  ck (0 ≤ v8) <|
  ge (v1[v8.toNat]?) fun x7 =>
  br (x7 != 0) (k0 12) <|
  F12.l21 N n v0 v1 v2 v3 v4 v5 v6 v7 (w (v8 + 1)) k0 k1
noncomputable def F12.K {β : Type} (N : Nat) (a0 : List Pl) (a1 : List Ro) (a2 : List Fa) (a3 : List Do) (a4 a5 a6 a7 : List Int) (k0 : Int → Option β) : Option β :=
 F30.C N a0 a1 a2 a3 fun r1 =>
 br (r1 != 0) (k0 r1) <|
 F31.C N a0 a1 a2 a3 a4 a5 fun r2 =>
 br (!r2) (k0 21) <|
 br ((a6.length : Int) != (a0.length : Int)) (k0 11) <|
 br ((a7.length : Int) != (a0.length : Int)) (k0 11) <|
 F12.l9 N N a0 a1 a2 a3 a4 a5 a6 a7 0 (a6.length : Int) 0 (fun z19 => k0 z19) fun z20 z21 z22 z23 z24 z25 z26 z27 z28 _ _ _ =>
 F32.C N z20 z21 fun r32 =>
 F33.C N z20 z21 z22 z23 z24 z25 fun r33 r34 =>
 F12.l21 N N z26 z27 z28 r32 r33 r34 z20 (z20.length : Int) 0 (fun z35 => k0 z35) fun _ _ _ _ _ _ _ _ _ _ =>
 k0 0
noncomputable def F12.fx : Fx := ⟨Try.prog, [], [], [(0,[3,4,5,6]),(1,[3,4,5,6,7]),(2,[3,4,5,6,7,18]),(3,[6]),(4,[3,4,5,6,23]),(5,[6]),(6,[3,4,5,6,41]),(7,[6]),(8,[3,4,5,6,44,45]),(9,[3,4,5,6,44,45,46]),(10,[3,4,5,6,8,44,45]),(11,[3,4,5,6,44,45,58,59,60]),(12,[3,4,5,6,44,45,58,59,60,61]),(13,[3,4,5,6,10,44,45,58,59,60]),(14,[3,4,5,6,44,45,58,59,60,69]),(15,[6]),(16,[3,4,5,6,44,45,58,59,60]),(17,[3,4,5,6,44,45]),(18,[3,4,5,6,11]),(19,[3,5,6,11,12]),(20,[5,6,11,12,80,81,82]),(21,[5,6,11,12,80,81,82,83]),(22,[5,6,11,12,13,14,80,81,82]),(23,[5,6,11,12,13,80,81,82,94]),(24,[5,6,11,12,80,81,82,108]),(25,[6]),(26,[5,6,11,12,80,81,82,122]),(27,[6]),(28,[5,6,11,12,80,81,82]),(29,[6])], 124, []⟩
noncomputable def F12.cs (N : Nat) : List (Ctr Try.prog) := [F30.X N, F31.X N, F32.X N, F33.X N, F34.X N, F35.X N]
abbrev F12.s12 : Sh := [(6, .one (.addr 3 0)), (7, .slot false [.lst .frz 62 kd1, .lst .frz 71 kd8, .lst .frz 100 kd11, .lst .frz 55 kd13]), (8, .one (.addr 4 0)), (9, .slot false [.lst .frz 3 .i, .lst .frz 3 .i]), (10, .one (.addr 5 0)), (11, .slot false [.lst .frz 3 .i, .lst .frz 3 .i]), (12, .one .i), (88, .one .i), (90, .one .i), (116, .one (.view 58 0)), (117, .slot true [.lst .own 3 .i]), (118, .one .i), (120, .one .i)]
abbrev F12.e12_0 : Sh := [(12, .one .i)]
abbrev F12.e12_1 : Sh := [(6, .one (.addr 3 0)), (7, .slot false [.lst .frz 62 kd1, .lst .frz 71 kd8, .lst .frz 100 kd11, .lst .frz 55 kd13]), (8, .one (.addr 4 0)), (9, .slot false [.lst .frz 3 .i, .lst .frz 3 .i]), (10, .one (.addr 5 0)), (11, .slot false [.lst .frz 3 .i, .lst .frz 3 .i]), (12, .one .i), (88, .one .i), (90, .one .i), (116, .one (.view 58 0)), (117, .slot true [.lst .own 3 .i]), (118, .one .i), (120, .one .i), (122, .one .bool)]
noncomputable def F12.X12 (N : Nat) : LpC Try.prog F12.fx := mkL (F12.cs N) [] ((loopsOf ((loopsOf (bodyOf Try.f12)).getD 0 .skip)).getD 0 .skip) 12 [3,4,5,6,44,45,58,59,60] (by kernel_rfl) (by kernel_rfl) (by kernel_rfl) F12.s12 (fun n x k => F12.l12 N n x.1 x.2.1 x.2.2.1 x.2.2.2.1 x.2.2.2.2.1 x.2.2.2.2.2.1 x.2.2.2.2.2.2.1 x.2.2.2.2.2.2.2.1 x.2.2.2.2.2.2.2.2.1 x.2.2.2.2.2.2.2.2.2.1 x.2.2.2.2.2.2.2.2.2.2.1 x.2.2.2.2.2.2.2.2.2.2.2.1 x.2.2.2.2.2.2.2.2.2.2.2.2.1 x.2.2.2.2.2.2.2.2.2.2.2.2.2.1 (fun r0 => k (.ret) (Sh.mk F12.e12_0 (r0, ()))) (fun r0 r1 r2 r3 r4 r5 r6 r7 r8 r9 r10 r11 r12 r13 r14 => k (.exit 2) (Sh.mk F12.e12_1 (r0, r1, r2, r3, r4, r5, r6, r7, r8, r9, r10, r11, r12, r13, r14, ())))) (fun _ _ => rfl) (fun _ _ _ => by kernel_rfl) N
abbrev F12.s9 : Sh := [(6, .one (.addr 3 0)), (7, .slot false [.lst .frz 62 kd1, .lst .frz 71 kd8, .lst .frz 100 kd11, .lst .frz 55 kd13]), (8, .one (.addr 4 0)), (9, .slot false [.lst .frz 3 .i, .lst .frz 3 .i]), (10, .one (.addr 5 0)), (11, .slot false [.lst .frz 3 .i, .lst .frz 3 .i]), (12, .one .i), (88, .one .i), (90, .one .i)]
abbrev F12.e9_0 : Sh := [(12, .one .i)]
abbrev F12.e9_1 : Sh := [(6, .one (.addr 3 0)), (7, .slot false [.lst .frz 62 kd1, .lst .frz 71 kd8, .lst .frz 100 kd11, .lst .frz 55 kd13]), (8, .one (.addr 4 0)), (9, .slot false [.lst .frz 3 .i, .lst .frz 3 .i]), (10, .one (.addr 5 0)), (11, .slot false [.lst .frz 3 .i, .lst .frz 3 .i]), (12, .one .i), (88, .one .i), (90, .one .i), (92, .one .bool)]
noncomputable def F12.X9 (N : Nat) : LpC Try.prog F12.fx := mkL (F12.cs N) [F12.X12 N] ((loopsOf (bodyOf Try.f12)).getD 0 .skip) 9 [3,4,5,6,44,45] (by kernel_rfl) (by kernel_rfl) (by kernel_rfl) F12.s9 (fun n x k => F12.l9 N n x.1 x.2.1 x.2.2.1 x.2.2.2.1 x.2.2.2.2.1 x.2.2.2.2.2.1 x.2.2.2.2.2.2.1 x.2.2.2.2.2.2.2.1 x.2.2.2.2.2.2.2.2.1 x.2.2.2.2.2.2.2.2.2.1 x.2.2.2.2.2.2.2.2.2.2.1 (fun r0 => k (.ret) (Sh.mk F12.e9_0 (r0, ()))) (fun r0 r1 r2 r3 r4 r5 r6 r7 r8 r9 r10 r11 => k (.exit 0) (Sh.mk F12.e9_1 (r0, r1, r2, r3, r4, r5, r6, r7, r8, r9, r10, r11, ())))) (fun _ _ => rfl) (fun _ _ _ => by kernel_rfl) N
abbrev F12.s21 : Sh := [(10, .one (.addr 5 0)), (11, .slot false [.lst .frz 3 .i, .lst .frz 3 .i]), (12, .one .i), (22, .one (.view 11 0)), (23, .slot true [.lst .own 4 .bool]), (24, .one (.addr 12 0)), (25, .slot false [.lst .own 91 kd16, .lst .own 23 (.ow 3 .i)]), (160, .one (.lst .frz 62 kd1)), (162, .one .i), (164, .one .i)]
abbrev F12.e21_0 : Sh := [(12, .one .i)]
abbrev F12.e21_1 : Sh := [(10, .one (.addr 5 0)), (11, .slot false [.lst .frz 3 .i, .lst .frz 3 .i]), (12, .one .i), (22, .one (.view 11 0)), (23, .slot true [.lst .own 4 .bool]), (24, .one (.addr 12 0)), (25, .slot false [.lst .own 91 kd16, .lst .own 23 (.ow 3 .i)]), (160, .one (.lst .frz 62 kd1)), (162, .one .i), (164, .one .i), (166, .one .bool)]
noncomputable def F12.X21 (N : Nat) : LpC Try.prog F12.fx := mkL (F12.cs N) [] ((loopsOf (bodyOf Try.f12)).getD 1 .skip) 21 [5,6,11,12,80,81,82] (by kernel_rfl) (by kernel_rfl) (by kernel_rfl) F12.s21 (fun n x k => F12.l21 N n x.1 x.2.1 x.2.2.1 x.2.2.2.1 x.2.2.2.2.1 x.2.2.2.2.2.1 x.2.2.2.2.2.2.1 x.2.2.2.2.2.2.2.1 x.2.2.2.2.2.2.2.2.1 (fun r0 => k (.ret) (Sh.mk F12.e21_0 (r0, ()))) (fun r0 r1 r2 r3 r4 r5 r6 r7 r8 r9 => k (.exit 4) (Sh.mk F12.e21_1 (r0, r1, r2, r3, r4, r5, r6, r7, r8, r9, ())))) (fun _ _ => rfl) (fun _ _ _ => by kernel_rfl) N
noncomputable def F12.C {β : Type} (N : Nat) := (Sealed fun β => @F12.K β).1 β N
theorem F12.C_eq {β : Type} (N : Nat) : @F12.C β N = @F12.K β N := congrFun (congrFun (Sealed fun β => @F12.K β).2 β) N
noncomputable def F12.X (N : Nat) : Ctr Try.prog := mkF 12 Try.f12 F12.fx (F12.cs N) [F12.X9 N, F12.X21 N] F12.i (fun x k => F12.C N x.1 x.2.1 x.2.2.1 x.2.2.2.1 x.2.2.2.2.1 x.2.2.2.2.2.1 x.2.2.2.2.2.2.1 x.2.2.2.2.2.2.2.1 (fun r0 => k (Sh.mk F12.o0 (r0, ())))) (by intros; rw [F12.C_eq]; kernel_rfl) (by kernel_rfl) (by kernel_rfl) (by kernel_rfl) (by kernel_rfl) rfl (by kernel_rfl) rfl (by kernel_rfl) (by kernel_rfl) (by kernel_rfl) (.dead _ 12) rfl
end Go.Vi.B
/- minecontrol/minecontrolref11.Ranged -/
namespace Go.Vi.B
open Go.Proofs
set_option linter.unusedVariables false
set_option maxRecDepth 100000
abbrev F38.i : Sh := [(0, .one (.lst .frz 3 .i))]
abbrev F38.o0 : Sh := [(0, .one .bool)]
noncomputable def F38.l2 {β : Type} (N : Nat) : Nat → (List Int) → Bool → Int → (Bool → Option β) → (List Int → Bool → Int → Bool → Option β) → Option β
 | 0, _, _, _, _, _ => none
 | n + 1, v0, v1, v2, k0, k1 =>
  bl (v2 < (v0.length : Int)) (k1 v0 v1 v2 (decide (v2 < (v0.length : Int)))) <|
  ck (0 ≤ v2) <|
  ge (v0[v2.toNat]?) fun x1 =>
  br (x1 < (-70368744177664)) (k0 false) <|
  ck (0 ≤ v2) <|
  ge (v0[v2.toNat]?) fun x2 =>
  br (x2 > 70368744177664) (k0 false) <|
  F38.l2 N n v0 v1 (w (v2 + 1)) k0 k1
noncomputable def F38.K {β : Type} (N : Nat) (a0 : List Int) (k0 : Bool → Option β) : Option β :=
 F38.l2 N N a0 false 0 (fun z3 => k0 z3) fun _ _ _ _ =>
 k0 true
noncomputable def F38.fx : Fx := ⟨Try.prog, [], [], [(0,[0,2]),(1,[0,2,3]),(2,[0,2,3,7]),(3,[0,2,3]),(4,[0,2,3,21]),(5,[2]),(6,[2])], 22, []⟩
noncomputable def F38.cs (N : Nat) : List (Ctr Try.prog) := []
abbrev F38.s2 : Sh := [(0, .one (.lst .frz 3 .i)), (4, .one .bool), (6, .one .i)]
abbrev F38.e2_0 : Sh := [(4, .one .bool)]
abbrev F38.e2_1 : Sh := [(0, .one (.lst .frz 3 .i)), (4, .one .bool), (6, .one .i), (14, .one .bool)]
noncomputable def F38.X2 (N : Nat) : LpC Try.prog F38.fx := mkL (F38.cs N) [] ((loopsOf (bodyOf Try.f38)).getD 0 .skip) 2 [0,2,3] (by kernel_rfl) (by kernel_rfl) (by kernel_rfl) F38.s2 (fun n x k => F38.l2 N n x.1 x.2.1 x.2.2.1 (fun r0 => k (.ret) (Sh.mk F38.e2_0 (r0, ()))) (fun r0 r1 r2 r3 => k (.exit 0) (Sh.mk F38.e2_1 (r0, r1, r2, r3, ())))) (fun _ _ => rfl) (fun _ _ _ => by kernel_rfl) N
noncomputable def F38.C {β : Type} (N : Nat) := (Sealed fun β => @F38.K β).1 β N
theorem F38.C_eq {β : Type} (N : Nat) : @F38.C β N = @F38.K β N := congrFun (congrFun (Sealed fun β => @F38.K β).2 β) N
noncomputable def F38.X (N : Nat) : Ctr Try.prog := mkF 38 Try.f38 F38.fx (F38.cs N) [F38.X2 N] F38.i (fun x k => F38.C N x.1 (fun r0 => k (Sh.mk F38.o0 (r0, ())))) (by intros; rw [F38.C_eq]; kernel_rfl) (by kernel_rfl) (by kernel_rfl) (by kernel_rfl) (by kernel_rfl) rfl (by kernel_rfl) rfl (by kernel_rfl) (by kernel_rfl) (by kernel_rfl) (.dead _ 38) rfl
end Go.Vi.B
/- minecontrol/minecontrolref11.Fixed -/
namespace Go.Vi.B
open Go.Proofs
set_option linter.unusedVariables false
set_option maxRecDepth 100000
abbrev F39.i : Sh := [(0, .agg [.lst .frz 62 kd1, .lst .frz 71 kd8])]
abbrev F39.o0 : Sh := [(0, .one (.view 0 0)), (1, .slot true [.lst .own 4 .bool])]
noncomputable def F39.l3 {β : Type} (N : Nat) : Nat → (List Pl) → (List Ro) → (List Bool) → (List Bool) → Int → (List Pl → List Ro → List Bool → List Bool → Int → Bool → Option β) → Option β
 | 0, _, _, _, _, _, _ => none
 | n + 1, v0, v1, v2, v3, v4, k0 =>
  bl (v4 < (v3.length : Int)) (k0 v0 v1 v2 v3 v4 (decide (v4 < (v3.length : Int)))) <|
  ck (0 ≤ v4) <|
  ge (v3[v4.toNat]?) fun _ =>
  ge (v3[v4.toNat]?) fun x2 =>
  br (!x2) (
   ck (0 ≤ v4) <|
   ge (v3[v4.toNat]?) fun _ =>
   ge (v3[v4.toNat]?) fun _ =>
   F39.l3 N n v0 v1 v2 (v3.set v4.toNat true) (w (v4 + 1)) k0) <|
  ck (0 ≤ v4) <|
  ge (v0[v4.toNat]?) fun x5 =>
  ck (0 ≤ v4) <|
  ge (v3[v4.toNat]?) fun _ =>
  ge (v3[v4.toNat]?) fun _ =>
  F39.l3 N n v0 v1 v2 (v3.set v4.toNat x5.2) (w (v4 + 1)) k0
noncomputable def F39.K {β : Type} (N : Nat) (a0 : List Pl) (a1 : List Ro) (k0 : List Bool → Option β) : Option β :=
 F19.C N a0 a1 fun r1 =>
 F39.l3 N N a0 a1 [] r1 0 fun _ _ _ z11 _ _ =>
 k0 z11
noncomputable def F39.fx : Fx := ⟨Try.prog, [], [], [(0,[1,2]),(1,[1,2,3]),(2,[1,2,3,4]),(3,[1,2,3,4,10]),(4,[1,2,3,4]),(5,[1,2,3,4]),(6,[2])], 30, []⟩
noncomputable def F39.cs (N : Nat) : List (Ctr Try.prog) := [F19.X N]
abbrev F39.s3 : Sh := [(2, .one (.addr 1 0)), (3, .slot false [.lst .frz 62 kd1, .lst .frz 71 kd8]), (4, .one (.view 2 0)), (5, .slot true [.lst .own 4 .bool]), (6, .one (.view 3 0)), (7, .slot true [.lst .own 4 .bool]), (8, .one .i)]
abbrev F39.e3_0 : Sh := [(2, .one (.addr 1 0)), (3, .slot false [.lst .frz 62 kd1, .lst .frz 71 kd8]), (4, .one (.view 2 0)), (5, .slot true [.lst .own 4 .bool]), (6, .one (.view 3 0)), (7, .slot true [.lst .own 4 .bool]), (8, .one .i), (20, .one .bool)]
noncomputable def F39.X3 (N : Nat) : LpC Try.prog F39.fx := mkL (F39.cs N) [] ((loopsOf (bodyOf Try.f39)).getD 0 .skip) 3 [1,2,3,4] (by kernel_rfl) (by kernel_rfl) (by kernel_rfl) F39.s3 (fun n x k => F39.l3 N n x.1 x.2.1 x.2.2.1 x.2.2.2.1 x.2.2.2.2.1 (fun r0 r1 r2 r3 r4 r5 => k (.exit 0) (Sh.mk F39.e3_0 (r0, r1, r2, r3, r4, r5, ())))) (fun _ _ => rfl) (fun _ _ _ => by kernel_rfl) N
noncomputable def F39.C {β : Type} (N : Nat) := (Sealed fun β => @F39.K β).1 β N
theorem F39.C_eq {β : Type} (N : Nat) : @F39.C β N = @F39.K β N := congrFun (congrFun (Sealed fun β => @F39.K β).2 β) N
noncomputable def F39.X (N : Nat) : Ctr Try.prog := mkF 39 Try.f39 F39.fx (F39.cs N) [F39.X3 N] F39.i (fun x k => F39.C N x.1 x.2.1 (fun r0 => k (Sh.mk F39.o0 (r0, ())))) (by intros; rw [F39.C_eq]; kernel_rfl) (by kernel_rfl) (by kernel_rfl) (by kernel_rfl) (by kernel_rfl) rfl (by kernel_rfl) rfl (by kernel_rfl) (by kernel_rfl) (by kernel_rfl) (.dead _ 39) rfl
end Go.Vi.B
/- minecontrol/minecontrolref11.Check -/
namespace Go.Vi.B
open Go.Proofs
set_option linter.unusedVariables false
set_option maxRecDepth 100000
abbrev F13.i : Sh := [(0, .agg [.lst .frz 62 kd1, .lst .frz 71 kd8, .lst .frz 100 kd11, .lst .frz 55 kd13]), (2, .agg [.lst .frz 3 .i, .lst .frz 3 .i]), (4, .agg [.lst .frz 3 .i, .lst .frz 3 .i])]
abbrev F13.o0 : Sh := [(0, .one .i)]
noncomputable def F13.l13 {β : Type} (N : Nat) : Nat → (List Pl) → (List Ro) → (List Fa) → (List Do) → (List Int) → (List Int) → (List Int) → (List Int) → Int → Int → (List Bool) → Int → (Int → Option β) → (List Pl → List Ro → List Fa → List Do → List Int → List Int → List Int → List Int → Int → Int → List Bool → Int → Bool → Option β) → Option β
 | 0, _, _, _, _, _, _, _, _, _, _, _, _, _, _ => none
 | n + 1, v0, v1, v2, v3, v4, v5, v6, v7, v8, v9, v10, v11, k0, k1 =>
  bl (v11 < v9) (k1 v0 v1 v2 v3 v4 v5 v6 v7 v8 v9 v10 v11 (decide (v11 < v9))) <|
  ck (0 ≤ v11) <|
  ge (v10[v11.toNat]?) fun _ =>
  ge (v10[v11.toNat]?) fun x2 =>
  bl x2 (
   F40.C N v0 v1 v2 v3 v4 v5 v7 v11 fun r5 =>
   br (r5 < 0) (k0 12) <|
   F41.C N v0 v1 v2 v3 v4 v5 v6 v11 fun r6 =>
   br (r6 > 0) (k0 12) <|
   F13.l13 N n v0 v1 v2 v3 v4 v5 v6 v7 v8 v9 v10 (w (v11 + 1)) k0 k1) <|
  ck (0 ≤ v11) <|
  ge (v6[v11.toNat]?) fun x3 =>
  br (x3 != 0) (k0 12) <|
  ck (0 ≤ v11) <|
  ge (v7[v11.toNat]?) fun x4 =>
  br (x4 != 0) (k0 12) <|
  F13.l13 N n v0 v1 v2 v3 v4 v5 v6 v7 v8 v9 v10 (w (v11 + 1)) k0 k1
noncomputable def F13.K {β : Type} (N : Nat) (a0 : List Pl) (a1 : List Ro) (a2 : List Fa) (a3 : List Do) (a4 a5 a6 a7 : List Int) (k0 : Int → Option β) : Option β :=
 F36.C N a0 a1 a2 a3 fun r1 =>
 br (r1 != 0) (k0 r1) <|
 F37.C N a0 a1 a2 a3 a4 a5 fun r2 =>
 br (!r2) (k0 21) <|
 br ((a6.length : Int) != (a0.length : Int)) (k0 11) <|
 br ((a7.length : Int) != (a0.length : Int)) (k0 11) <|
 F38.C N a6 fun r3 =>
 br (!r3) (k0 1) <|
 F38.C N a7 fun r4 =>
 br (!r4) (k0 1) <|
 F39.C N a0 a1 fun r5 =>
 F13.l13 N N a0 a1 a2 a3 a4 a5 a6 a7 0 (a0.length : Int) r5 0 (fun z7 => k0 z7) fun _ _ _ _ _ _ _ _ _ _ _ _ _ =>
 k0 0
noncomputable def F13.fx : Fx := ⟨Try.prog, [], [], [(0,[3,4,5,6]),(1,[3,4,5,6,7]),(2,[3,4,5,6,7,14]),(3,[6]),(4,[3,4,5,6,19]),(5,[6]),(6,[3,4,5,6,8]),(7,[3,4,5,6,8,35]),(8,[6]),(9,[3,4,5,6,8,45]),(10,[6]),(11,[3,4,5,6,8,9]),(12,[3,4,5,6,8,9,10]),(13,[3,4,5,6,8,9,10,51]),(14,[3,4,5,6,8,9,10]),(15,[3,4,5,6,8,9,10,57]),(16,[3,4,5,6,8,9,10,71]),(17,[6]),(18,[3,4,5,6,8,9,10,87]),(19,[6]),(20,[6])], 88, []⟩
noncomputable def F13.cs (N : Nat) : List (Ctr Try.prog) := [F36.X N, F37.X N, F38.X N, F39.X N, F40.X N, F41.X N]
abbrev F13.s13 : Sh := [(6, .one (.addr 3 0)), (7, .slot false [.lst .frz 62 kd1, .lst .frz 71 kd8, .lst .frz 100 kd11, .lst .frz 55 kd13]), (8, .one (.addr 4 0)), (9, .slot false [.lst .frz 3 .i, .lst .frz 3 .i]), (10, .one (.addr 5 0)), (11, .slot false [.lst .frz 3 .i, .lst .frz 3 .i]), (12, .one .i), (16, .one .i), (18, .one (.view 9 0)), (19, .slot true [.lst .own 4 .bool]), (20, .one .i)]
abbrev F13.e13_0 : Sh := [(12, .one .i)]
abbrev F13.e13_1 : Sh := [(6, .one (.addr 3 0)), (7, .slot false [.lst .frz 62 kd1, .lst .frz 71 kd8, .lst .frz 100 kd11, .lst .frz 55 kd13]), (8, .one (.addr 4 0)), (9, .slot false [.lst .frz 3 .i, .lst .frz 3 .i]), (10, .one (.addr 5 0)), (11, .slot false [.lst .frz 3 .i, .lst .frz 3 .i]), (12, .one .i), (16, .one .i), (18, .one (.view 9 0)), (19, .slot true [.lst .own 4 .bool]), (20, .one .i), (102, .one .bool)]
noncomputable def F13.X13 (N : Nat) : LpC Try.prog F13.fx := mkL (F13.cs N) [] ((loopsOf (bodyOf Try.f13)).getD 0 .skip) 13 [3,4,5,6,8,9,10] (by kernel_rfl) (by kernel_rfl) (by kernel_rfl) F13.s13 (fun n x k => F13.l13 N n x.1 x.2.1 x.2.2.1 x.2.2.2.1 x.2.2.2.2.1 x.2.2.2.2.2.1 x.2.2.2.2.2.2.1 x.2.2.2.2.2.2.2.1 x.2.2.2.2.2.2.2.2.1 x.2.2.2.2.2.2.2.2.2.1 x.2.2.2.2.2.2.2.2.2.2.1 x.2.2.2.2.2.2.2.2.2.2.2.1 (fun r0 => k (.ret) (Sh.mk F13.e13_0 (r0, ()))) (fun r0 r1 r2 r3 r4 r5 r6 r7 r8 r9 r10 r11 r12 => k (.exit 0) (Sh.mk F13.e13_1 (r0, r1, r2, r3, r4, r5, r6, r7, r8, r9, r10, r11, r12, ())))) (fun _ _ => rfl) (fun _ _ _ => by kernel_rfl) N
noncomputable def F13.C {β : Type} (N : Nat) := (Sealed fun β => @F13.K β).1 β N
theorem F13.C_eq {β : Type} (N : Nat) : @F13.C β N = @F13.K β N := congrFun (congrFun (Sealed fun β => @F13.K β).2 β) N
noncomputable def F13.X (N : Nat) : Ctr Try.prog := mkF 13 Try.f13 F13.fx (F13.cs N) [F13.X13 N] F13.i (fun x k => F13.C N x.1 x.2.1 x.2.2.1 x.2.2.2.1 x.2.2.2.2.1 x.2.2.2.2.2.1 x.2.2.2.2.2.2.1 x.2.2.2.2.2.2.2.1 (fun r0 => k (Sh.mk F13.o0 (r0, ())))) (by intros; rw [F13.C_eq]; kernel_rfl) (by kernel_rfl) (by kernel_rfl) (by kernel_rfl) (by kernel_rfl) rfl (by kernel_rfl) rfl (by kernel_rfl) (by kernel_rfl) (by kernel_rfl) (.dead _ 13) rfl
end Go.Vi.B
/- What ends a certificate's checking. -/
namespace Go.Vi.A
def rngF (_ : Nat) (x : Int) : Int := if x < -70368744177664 then 1 else if x > 70368744177664 then 1 else 0
theorem rngF_01 (i : Nat) (x : Int) : rngF i x = 0 ∨ rngF i x = 1 := by unfold rngF; repeat' split
                                                                        all_goals simp
theorem ferr_01 {α : Type} {f : Nat → α → Int} (h : ∀ i x, f i x = 0 ∨ f i x = 1) : ∀ (xs : List α) (i : Nat), ferr f i xs = 0 ∨ ferr f i xs = 1
  | [], _ => .inl rfl
  | x :: t, i => by
    simp only [ferr]
    split
    · exact ferr_01 h t (i + 1)
    · exact h i x
/-- Both lists of bounds lie in the range. -/
def rngE (lo hi : List Int) : Int := if ferr rngF 0 lo = 0 then if ferr rngF 0 hi = 0 then 0 else 1 else 1
def pairF (hi : List Int) (i : Nat) (x : Int) : Int := ferr rngF 0 [x, hi.getD i 0]
theorem pair_rng {lo hi : List Int} (h : hi.length = lo.length) : ferr (pairF hi) 0 lo = rngE lo hi := by
  have h2 : ferr (pairF hi) 0 lo = 0 ↔ ferr rngF 0 lo = 0 ∧ ferr rngF 0 hi = 0 := by
    rw [ferr_zero, ferr_zero, ferr_zero]
    have e : ∀ (i : Nat) (x : Int), pairF hi i x = 0 ↔ rngF 0 x = 0 ∧ rngF 0 (hi.getD i 0) = 0 := fun i x => by
      unfold pairF; simp only [ferr]
      by_cases c : rngF 0 x = 0
      · rw [if_pos c]
        by_cases d : rngF (0 + 1) (hi.getD i 0) = 0
        · rw [if_pos d]; exact ⟨fun _ => ⟨c, d⟩, fun _ => rfl⟩
        · rw [if_neg d]; exact ⟨fun g => absurd g d, fun g => absurd g.2 d⟩
      · rw [if_neg c]; exact ⟨fun g => absurd g c, fun g => absurd g.1 c⟩
    constructor
    · intro g
      refine ⟨fun j x hx => ((e _ _).1 (g j x hx)).1, fun j x hx => ?_⟩
      obtain ⟨y, hy⟩ := getl (xs := lo) (i := j) (by have := (List.getElem?_eq_some_iff.1 hx).1; omega)
      have := ((e _ _).1 (g j y hy)).2
      rw [Nat.zero_add, getD_eq hx] at this
      exact this
    · rintro ⟨g1, g2⟩ j x hx
      refine (e _ _).2 ⟨g1 j x hx, ?_⟩
      obtain ⟨y, hy⟩ := getl (xs := hi) (i := j) (by have := (List.getElem?_eq_some_iff.1 hx).1; omega)
      rw [Nat.zero_add, getD_eq hy]
      exact g2 j y hy
  unfold rngE
  rcases ferr_01 (f := pairF hi) (fun i x => by unfold pairF; exact ferr_01 rngF_01 _ _) lo 0 with c | c
  · obtain ⟨a, b⟩ := h2.1 c
    rw [c, if_pos a, if_pos b]
  · rw [c]
    by_cases a : ferr rngF 0 lo = 0
    · rw [if_pos a, if_neg fun b => by rw [h2.2 ⟨a, b⟩] at c; cases c]
    · rw [if_neg a]
def fixC (lo hi : List Int) (i : Nat) : Int := if lo.getD i 0 = 0 then if hi.getD i 0 = 0 then 0 else 12 else 12
/-- One place: fixed, or between its bounds. -/
def placeC (A : Nat → Bool) (dz : DS) (fz : FS) (ro : List Ro) (lo hi : List Int) (i : Nat) (p : Pl) : Int :=
  if p.2 = true then fixC lo hi i else if A i = true then if lowP dz fz ro hi (i : Int) < 0 then 12 else if highP dz fz ro lo (i : Int) > 0 then 12 else 0 else fixC lo hi i
/-- What is wrong with a certificate. -/
def certE (A : Nat → Bool) (pl : List Pl) (ro : List Ro) (fa : List Fa) (dr : List Do) (sf sd lo hi : List Int) : Int :=
  thn (airE pl ro fa dr) (if fitE fa dr sf sd = 0 then if (lo.length : Int) = (pl.length : Int) then if (hi.length : Int) = (pl.length : Int) then thn (rngE lo hi) (ferr (placeC A (dr.zip sd) (fa.zip sf) ro lo hi) 0 pl) else 11 else 11 else 21)
end Go.Vi.A
namespace Go.Vi.B
open Go.Proofs Go.Vi.A
set_option linter.unusedVariables false
variable {N : Nat} (hN : 1000 ≤ N) {β : Type}
theorem rng_ok {pl : List Pl} {xs : List Int} (h : ferr rngF 0 xs = 0) (hl : xs.length = pl.length) : PrOk pl xs := ⟨hl, fun x hx => by
  obtain ⟨j, hj⟩ := List.mem_iff_getElem?.1 hx
  have := (ferr_zero xs 0).1 h j x hj
  unfold rngF at this
  split at this
  · cases this
  · split at this
    · cases this
    · omega⟩
theorem fix_end {lo hi : List Int} {i : Nat} {x y : Int} (hx : lo[i]? = some x) (hy : hi[i]? = some y) {L : Option β} {k0 : Int → Option β} :
    (if x = 0 then if y = 0 then L else k0 12 else k0 12) = if fixC lo hi i = 0 then L else k0 (fixC lo hi i) := by
  unfold fixC
  rw [getD_eq hx, getD_eq hy]
  exact ifE' (by decide) fun _ => ifE' (by decide) fun _ => out0
include hN in
theorem check_pair (v0 : List Pl) (v1 : List Ro) (v2 : List Fa) (v3 : List Do) (v4 v5 v6 v7 : List Int) (v8 v9 v10 x y : Int) (K0 : Int → Option β) (K1 : List Pl → List Ro → List Fa → List Do → List Int → List Int → List Int → List Int → Int → Int → Int → List Int → Int → Int → Bool → Option β) :
    F12.l12 N N v0 v1 v2 v3 v4 v5 v6 v7 v8 v9 v10 [x, y] (([x, y] : List Int).length : Int) 0 K0 K1 = if ferr rngF 0 [x, y] = 0 then K1 v0 v1 v2 v3 v4 v5 v6 v7 v8 v9 v10 [x, y] (([x, y] : List Int).length : Int) (([x, y] : List Int).length : Int) false else K0 (ferr rngF 0 [x, y]) := by
  have hl : ([x, y] : List Int).length = 2 := rfl
  refine (lerr (xs := [x, y]) rngF (L := fun n j => F12.l12 N n v0 v1 v2 v3 v4 v5 v6 v7 v8 v9 v10 [x, y] (([x, y] : List Int).length : Int) (j : Int) K0 K1) (k0 := K0) (k1 := K1 v0 v1 v2 v3 v4 v5 v6 v7 v8 v9 v10 [x, y] (([x, y] : List Int).length : Int) (([x, y] : List Int).length : Int) false)
    (fun n => by simp only [F12.l12, res, Int.lt_irrefl, decide_false]) (fun i z hz n => by
      have hi := idx hz
      simp only [F12.l12, res, Int.toNat_natCast, hz, ge_some, w_succ (show i < 4000000000 by omega)]
      rw [if_pos (by omega), if_pos (by omega)]
      unfold rngF
      exact ifE (by decide) fun _ => ifE (by decide) fun _ => out0) N 0 (by omega) (by omega)).trans ?_
  rw [List.drop_zero]
include hN in
theorem check_places {pl : List Pl} {ro : List Ro} {fa : List Fa} {dr : List Do} (sf sd : List Int) {lo hi : List Int} (h : AirOk pl ro fa dr) (hl : PrOk pl lo) (hh : PrOk pl hi) (A : Nat → Bool) (v2 : Int) (K0 : Int → Option β) (K1 : List Int → List Int → Int → List Bool → List (Ro × (Int × (List (Fa × Int)))) → List (Option (List Int)) → List Pl → Int → Int → Bool → Option β) :
    F12.l21 N N lo hi v2 (tab pl.length fun i => !A i) (pipesF (dr.zip sd) (fa.zip sf) 0 ro) (tab pl.length fun p => some (atF p 0 (pipesF (dr.zip sd) (fa.zip sf) 0 ro))) pl (pl.length : Int) 0 K0 K1 =
    if ferr (placeC A (dr.zip sd) (fa.zip sf) ro lo hi) 0 pl = 0 then K1 lo hi v2 (tab pl.length fun i => !A i) (pipesF (dr.zip sd) (fa.zip sf) 0 ro) (tab pl.length fun p => some (atF p 0 (pipesF (dr.zip sd) (fa.zip sf) 0 ro))) pl (pl.length : Int) (pl.length : Int) false else K0 (ferr (placeC A (dr.zip sd) (fa.zip sf) ro lo hi) 0 pl) := by
  have hn := h.npl
  refine (lerr (xs := pl) (placeC A (dr.zip sd) (fa.zip sf) ro lo hi) (L := fun n j => F12.l21 N n lo hi v2 (tab pl.length fun i => !A i) (pipesF (dr.zip sd) (fa.zip sf) 0 ro) (tab pl.length fun p => some (atF p 0 (pipesF (dr.zip sd) (fa.zip sf) 0 ro))) pl (pl.length : Int) (j : Int) K0 K1) (k0 := K0)
    (fun n => by simp only [F12.l21, res, Int.lt_irrefl, decide_false]; rfl) (fun i p hp n => by
      have hi' := idx hp
      obtain ⟨x, hx⟩ := getl (xs := lo) (i := i) (by have := hl.len; omega)
      obtain ⟨y, hy⟩ := getl (xs := hi) (i := i) (by have := hh.len; omega)
      simp only [F12.l21, res, Int.toNat_natCast, hp, hx, hy, ge_some, w_succ (show i < 4000000000 by omega), tab_get hi', net_Low (β := β) hN sf sd h hh (show (0 : Int) ≤ (i : Int) by omega) (show (i : Int) < (pl.length : Int) by omega), net_High (β := β) hN sf sd h hl (show (0 : Int) ≤ (i : Int) by omega) (show (i : Int) < (pl.length : Int) by omega)]
      rw [if_pos (by omega)]
      simp only [show (0 : Int) ≤ (i : Int) by omega, if_true]
      unfold placeC
      cases ht : p.2 with
      | true =>
        simp only [res, if_true]
        exact fix_end hx hy
      | false =>
        simp only [res, Bool.false_eq_true, if_false]
        cases ha : A i with
        | false =>
          simp only [res, Bool.false_eq_true, if_false]
          exact fix_end hx hy
        | true =>
          simp only [res, if_true]
          exact ifE (by decide) fun _ => ifE (by decide) fun _ => out0) N 0 (by omega) (by omega)).trans ?_
  rw [List.drop_zero]
include hN in
theorem certify_Check (pl : List Pl) (ro : List Ro) (fa : List Fa) (dr : List Do) (sf sd lo hi : List Int) (k : Int → Option β) :
    F12.C N pl ro fa dr sf sd lo hi k = k (certE (airB pl ro) pl ro fa dr sf sd lo hi) := by
  rw [F12.C_eq]; unfold F12.K certE
  simp only [res, branch_Check hN]
  refine thnK fun h0 => ?_
  have h := AirOk.of h0
  have hn := h.npl
  rw [branch_Fitting hN pl ro fa dr sf sd h0]
  unfold nz
  by_cases c : fitE fa dr sf sd = 0
  · rw [if_pos c, decide_eq_true c]
    simp only [res]
    have hs := SetOk.of c
    refine ifK' fun c1 => ifK' fun c2 => ?_
    have hl : hi.length = lo.length := by omega
    refine (lerr (xs := lo) (pairF hi) (L := fun n i => F12.l9 N n pl ro fa dr sf sd lo hi 0 (lo.length : Int) (i : Int) (fun z19 => k z19) fun z20 z21 z22 z23 z24 z25 z26 z27 z28 _ _ _ =>
        F32.C N z20 z21 fun r32 => F33.C N z20 z21 z22 z23 z24 z25 fun r33 r34 => F12.l21 N N z26 z27 z28 r32 r33 r34 z20 (z20.length : Int) 0 (fun z35 => k z35) fun _ _ _ _ _ _ _ _ _ _ => k 0) (k0 := k)
      (k1 := F32.C N pl ro fun r32 => F33.C N pl ro fa dr sf sd fun r33 r34 => F12.l21 N N lo hi 0 r32 r33 r34 pl (pl.length : Int) 0 (fun z35 => k z35) fun _ _ _ _ _ _ _ _ _ _ => k 0)
      (fun n => by simp only [F12.l9, res]; rw [if_neg (by omega)]) (fun i x hx n => by
        have hi' := idx hx
        obtain ⟨y, hy⟩ := getl (xs := hi) (i := i) (by omega)
        simp only [F12.l9, res, Int.toNat_natCast, hx, hy, ge_some]
        rw [if_pos (by omega), if_pos (by omega), if_pos (by omega)]
        unfold pairF
        rw [getD_eq hy, check_pair hN]
        simp only [w_succ (show i < 4000000000 by omega)]) N 0 (by omega) (by omega)).trans ?_
    rw [List.drop_zero, pair_rng hl]
    refine thnK fun h1 => ?_
    have hr : ferr rngF 0 lo = 0 ∧ ferr rngF 0 hi = 0 := by
      unfold rngE at h1
      split at h1
      · rename_i a
        split at h1
        · rename_i b; exact ⟨a, b⟩
        · cases h1
      · cases h1
    rw [certify_Lost hN h0, make_eq hN h hs, check_places hN sf sd h (rng_ok hr.1 (by omega)) (rng_ok hr.2 (by omega)) (airB pl ro)]
    exact endK
  · rw [if_neg c, decide_eq_false c]; rfl
include hN in
theorem ref11_Ranged {xs : List Int} (hl : xs.length ≤ 64) (k : Bool → Option β) : F38.C N xs k = nz k (ferr rngF 0 xs) := by
  rw [F38.C_eq]; unfold F38.K
  simp only [nz0 k]
  refine (lerr (xs := xs) rngF (L := fun n i => F38.l2 N n xs false (i : Int) (fun z3 => k z3) fun _ _ _ _ => nz k 0) (k0 := nz k) (k1 := nz k 0) (fun n => by
      simp only [F38.l2, res, Int.lt_irrefl, if_false]) (fun i x hx n => by
      have hi := idx hx
      simp only [F38.l2, res, nz1 k, Int.toNat_natCast, hx, ge_some, w_succ (show i < 4000000000 by omega)]
      rw [if_pos (by omega), if_pos (by omega)]
      unfold rngF
      exact ifE (by decide) fun _ => (by rw [if_pos (by omega)]; exact ifE (by decide) fun _ => out0)) N 0 (by omega) (by omega)).trans ?_
  rw [List.drop_zero]; exact endK
include hN in
theorem ref11_Fixed {pl : List Pl} {ro : List Ro} (hn : pl.length ≤ 64) (hm : ro.length ≤ 128) (hr : RdOk pl.length ro) (k : List Bool → Option β) : F39.C N pl ro k = k (tab pl.length fun i => !airB pl ro i || topB pl i) := by
  rw [F39.C_eq]; unfold F39.K
  rw [ref01_Airy hN hn hm hr]
  obtain ⟨s, hs, e⟩ := lfor (len := pl.length) (L := fun n j (s : List Bool) => F39.l3 N n pl ro [] s (j : Int) fun _ _ _ z11 _ _ => k z11) (k := k)
    (fun j s => s = tab pl.length fun i => if i < j then !airB pl ro i || topB pl i else airB pl ro i)
    (fun n s hs => by subst hs; simp only [F39.l3, res, tab_len, Int.lt_irrefl, if_false])
    (fun j s hj hs => by
      obtain ⟨p, hp⟩ := getl hj
      have et : topB pl j = p.2 := by unfold topB; rw [getD_eq hp]
      refine ⟨_, rfl, fun n => ?_⟩
      subst hs
      have cong : ∀ k, k < pl.length → k ≠ j → (if k < j + 1 then !airB pl ro k || topB pl k else airB pl ro k) = if k < j then !airB pl ro k || topB pl k else airB pl ro k := fun k hk hne => by
        have : k < j + 1 ↔ k < j := by omega
        simp only [this]
      simp only [F39.l3, res, tab_len, Int.toNat_natCast, hp, ge_some, w_succ (show j < 4000000000 by omega), tab_get hj, Nat.lt_irrefl, if_false]
      rw [if_pos (by omega), if_pos (by omega)]
      cases ha : airB pl ro j with
      | false =>
        simp only [res]
        rw [tab_set (fun i => if i < j + 1 then !airB pl ro i || topB pl i else airB pl ro i) (by rw [if_pos (by omega), ha]; rfl) cong]
        first | rfl | rw [if_pos (by omega)]
      | true =>
        simp only [res]
        rw [tab_set (fun i => if i < j + 1 then !airB pl ro i || topB pl i else airB pl ro i) (by rw [if_pos (by omega), ha, et]; rfl) cong]
        first | rfl | rw [if_pos (by omega)] | (rw [if_pos (by omega), if_pos (by omega)])) 0 (tab pl.length (airB pl ro)) N (tab_congr fun i _ => by simp) (by omega) (by omega)
  refine e.trans ?_
  rw [hs]
  exact congrArg k (tab_congr fun i hi => if_pos hi)
include hN in
theorem ref11_Check (pl : List Pl) (ro : List Ro) (fa : List Fa) (dr : List Do) (sf sd lo hi : List Int) (k : Int → Option β) :
    F13.C N pl ro fa dr sf sd lo hi k = k (certE (airB pl ro) pl ro fa dr sf sd lo hi) := by
  rw [F13.C_eq]; unfold F13.K certE
  simp only [res, ref09_Check hN]
  refine thnK fun h0 => ?_
  have h := AirOk.of h0
  have hn := h.npl
  rw [ref09_Right hN]
  unfold nz rightE
  rw [h0, thn, if_pos rfl]
  by_cases c : fitE fa dr sf sd = 0
  · rw [if_pos c, decide_eq_true c]
    simp only [res]
    have hs := SetOk.of c
    refine ifK' fun c1 => ifK' fun c2 => ?_
    rw [ref11_Ranged hN (by omega)]
    unfold rngE nz
    by_cases a : ferr rngF 0 lo = 0
    · rw [if_pos a, decide_eq_true a]
      simp only [res]
      rw [ref11_Ranged hN (by omega)]
      unfold nz
      by_cases b : ferr rngF 0 hi = 0
      · rw [if_pos b, decide_eq_true b]
        simp only [res]
        rw [ref11_Fixed hN hn h.nro h.rd, thn, if_pos rfl]
        have hl := rng_ok a (pl := pl) (by omega)
        have hh := rng_ok b (pl := pl) (by omega)
        refine (lerr (xs := pl) (placeC (airB pl ro) (dr.zip sd) (fa.zip sf) ro lo hi) (L := fun n j => F13.l13 N n pl ro fa dr sf sd lo hi 0 (pl.length : Int) (tab pl.length fun i => !airB pl ro i || topB pl i) (j : Int) (fun z7 => k z7) fun _ _ _ _ _ _ _ _ _ _ _ _ _ => k 0) (k0 := k) (k1 := k 0)
          (fun n => by simp only [F13.l13, res, Int.lt_irrefl, if_false]) (fun i p hp n => by
            have hi' := idx hp
            obtain ⟨x, hx⟩ := getl (xs := lo) (i := i) (by have := hl.len; omega)
            obtain ⟨y, hy⟩ := getl (xs := hi) (i := i) (by have := hh.len; omega)
            have et : topB pl i = p.2 := by unfold topB; rw [getD_eq hp]
            simp only [F13.l13, res, Int.toNat_natCast, hx, hy, ge_some, w_succ (show i < 4000000000 by omega), tab_get hi', ref10_Lowest (β := β) hN h hs hh, ref10_Highest (β := β) hN h hs hl, et]
            rw [if_pos (by omega)]
            simp only [show (0 : Int) ≤ (i : Int) by omega, if_true]
            unfold placeC
            cases ht : p.2 with
            | true =>
              simp only [res, if_true, Bool.or_true]
              exact fix_end hx hy
            | false =>
              simp only [res, Bool.false_eq_true, if_false, Bool.or_false]
              cases ha : airB pl ro i with
              | false =>
                simp only [res, Bool.false_eq_true, if_false]
                exact fix_end hx hy
              | true =>
                simp only [res, if_true]
                exact ifE (by decide) fun _ => ifE (by decide) fun _ => out0) N 0 (by omega) (by omega)).trans ?_
        rw [List.drop_zero]
        exact endK
      · rw [if_neg b, decide_eq_false b]; rfl
    · rw [if_neg a, decide_eq_false a]; rfl
  · rw [if_neg c, decide_eq_false c]; rfl
end Go.Vi.B
/- minecontrol/certify.Flows -/
namespace Go.Vi.B
open Go.Proofs
set_option linter.unusedVariables false
set_option maxRecDepth 100000
abbrev F15.i : Sh := [(0, .agg [.lst .frz 62 kd1, .lst .frz 71 kd8, .lst .frz 100 kd11, .lst .frz 55 kd13]), (2, .agg [.lst .frz 3 .i, .lst .frz 3 .i]), (4, .agg [.lst .frz 3 .i, .lst .frz 3 .i])]
abbrev F15.o0 : Sh := [(0, .one (.view 0 0)), (1, .slot true [.lst .own 57 kd0])]
noncomputable def F15.l6 {β : Type} (N : Nat) : Nat → (List Int) → (List Int) → (List Sp) → (List Sp) → (List Bool) → (List (Ro × (Int × (List (Fa × Int))))) → (List (Option (List Int))) → Int → Int → (List Int → List Int → List Sp → List Sp → List Bool → (List (Ro × (Int × (List (Fa × Int))))) → (List (Option (List Int))) → Int → Int → Bool → Option β) → Option β
 | 0, _, _, _, _, _, _, _, _, _, _ => none
 | n + 1, v0, v1, v2, v3, v4, v5, v6, v7, v8, k0 =>
  bl (v8 < v7) (k0 v0 v1 v2 v3 v4 v5 v6 v7 v8 (decide (v8 < v7))) <|
  ck (0 ≤ v8) <|
  ge (v5[v8.toNat]?) fun _ =>
  ge (v5[v8.toNat]?) fun x2 =>
  ck (0 ≤ x2.1.1) <|
  ge (v4[x2.1.1.toNat]?) fun _ =>
  ge (v4[x2.1.1.toNat]?) fun x4 =>
  br x4 (
   ck (0 ≤ x2.2.1) <|
   ge (v3[x2.2.1.toNat]?) fun _ =>
   ge (v3[x2.2.1.toNat]?) fun _ =>
   F15.l6 N n v0 v1 v2 (v3.set x2.2.1.toNat ((-1125899906842624), 1125899906842624)) v4 v5 v6 v7 (w (v8 + 1)) k0) <|
  ck (0 ≤ x2.1.1) <|
  ge (v0[x2.1.1.toNat]?) fun x7 =>
  ck (0 ≤ x2.1.2.1) <|
  ge (v1[x2.1.2.1.toNat]?) fun x8 =>
  F42.C N x2.1.1 x2.1.2.1 x2.1.2.2.1 x2.1.2.2.2.1 x2.1.2.2.2.2.1 x2.1.2.2.2.2.2.1 x2.1.2.2.2.2.2.2.1.1 x2.1.2.2.2.2.2.2.1.2 x2.1.2.2.2.2.2.2.2.1 x2.1.2.2.2.2.2.2.2.2 x2.2.1 x2.2.2 (w (x7 - x8)) fun r9 =>
  ck (0 ≤ x2.1.1) <|
  ge (v1[x2.1.1.toNat]?) fun x10 =>
  ck (0 ≤ x2.1.2.1) <|
  ge (v0[x2.1.2.1.toNat]?) fun x11 =>
  F43.C N x2.1.1 x2.1.2.1 x2.1.2.2.1 x2.1.2.2.2.1 x2.1.2.2.2.2.1 x2.1.2.2.2.2.2.1 x2.1.2.2.2.2.2.2.1.1 x2.1.2.2.2.2.2.2.1.2 x2.1.2.2.2.2.2.2.2.1 x2.1.2.2.2.2.2.2.2.2 x2.2.1 x2.2.2 (w (x10 - x11)) fun r12 =>
  ck (0 ≤ x2.2.1) <|
  ge (v3[x2.2.1.toNat]?) fun _ =>
  ge (v3[x2.2.1.toNat]?) fun _ =>
  F15.l6 N n v0 v1 v2 (v3.set x2.2.1.toNat (r9, r12)) v4 v5 v6 v7 (w (v8 + 1)) k0
noncomputable def F15.K {β : Type} (N : Nat) (a0 : List Pl) (a1 : List Ro) (a2 : List Fa) (a3 : List Do) (a4 a5 a6 a7 : List Int) (k0 : List Sp → Option β) : Option β :=
 F12.C N a0 a1 a2 a3 a4 a5 a6 a7 fun r1 =>
 br (r1 != 0) (k0 []) <|
 ck ((a1.length : Int) = (a1.length : Int)) <|
 ck (0 ≤ (a1.length : Int)) <|
 ck ((a1.length : Int) ≤ 1000000000) <|
 F32.C N a0 a1 fun r2 =>
 F33.C N a0 a1 a2 a3 a4 a5 fun r3 r4 =>
 F15.l6 N N a6 a7 [] (List.replicate (Int.toNat (a1.length : Int)) (0, 0)) r2 r3 r4 (r3.length : Int) 0 fun _ _ _ z18 _ _ _ _ _ _ =>
 k0 z18
noncomputable def F15.fx : Fx := ⟨Try.prog, [], [], [(0,[3,4,5,6]),(1,[3,4,5,6,15]),(2,[6]),(3,[3,4,5,6,7]),(4,[3,4,5,6,7,8]),(5,[5,6,7,8,27,28,29]),(6,[5,6,7,8,27,28,29,30]),(7,[5,6,7,8,10,27,28,29]),(8,[5,6,7,8,10,27,28,29,38]),(9,[5,6,7,8,27,28,29]),(10,[5,6,7,8,27,28,29]),(11,[5,6,7,8,27,28,29]),(12,[6])], 85, []⟩
noncomputable def F15.cs (N : Nat) : List (Ctr Try.prog) := [F12.X N, F32.X N, F33.X N, F42.X N, F43.X N]
abbrev F15.s6 : Sh := [(10, .one (.addr 5 0)), (11, .slot false [.lst .frz 3 .i, .lst .frz 3 .i]), (12, .one (.view 6 0)), (13, .slot true [.lst .own 57 kd0]), (14, .one (.view 7 0)), (15, .slot true [.lst .own 57 kd0]), (16, .one (.view 8 0)), (17, .slot true [.lst .own 4 .bool]), (53, .slot true [.lst .own 91 kd16, .lst .own 23 (.ow 3 .i)]), (54, .one (.view 26 0)), (56, .one .i), (58, .one .i)]
abbrev F15.e6_0 : Sh := [(10, .one (.addr 5 0)), (11, .slot false [.lst .frz 3 .i, .lst .frz 3 .i]), (12, .one (.view 6 0)), (13, .slot true [.lst .own 57 kd0]), (14, .one (.view 7 0)), (15, .slot true [.lst .own 57 kd0]), (16, .one (.view 8 0)), (17, .slot true [.lst .own 4 .bool]), (53, .slot true [.lst .own 91 kd16, .lst .own 23 (.ow 3 .i)]), (54, .one (.view 26 0)), (56, .one .i), (58, .one .i), (60, .one .bool)]
noncomputable def F15.X6 (N : Nat) : LpC Try.prog F15.fx := mkL (F15.cs N) [] ((loopsOf (bodyOf Try.f15)).getD 0 .skip) 6 [5,6,7,8,27,28,29] (by kernel_rfl) (by kernel_rfl) (by kernel_rfl) F15.s6 (fun n x k => F15.l6 N n x.1 x.2.1 x.2.2.1 x.2.2.2.1 x.2.2.2.2.1 x.2.2.2.2.2.1 x.2.2.2.2.2.2.1 x.2.2.2.2.2.2.2.1 x.2.2.2.2.2.2.2.2.1 (fun r0 r1 r2 r3 r4 r5 r6 r7 r8 r9 => k (.exit 0) (Sh.mk F15.e6_0 (r0, r1, r2, r3, r4, r5, r6, r7, r8, r9, ())))) (fun _ _ => rfl) (fun _ _ _ => by kernel_rfl) N
noncomputable def F15.C {β : Type} (N : Nat) := (Sealed fun β => @F15.K β).1 β N
theorem F15.C_eq {β : Type} (N : Nat) : @F15.C β N = @F15.K β N := congrFun (congrFun (Sealed fun β => @F15.K β).2 β) N
noncomputable def F15.X (N : Nat) : Ctr Try.prog := mkF 15 Try.f15 F15.fx (F15.cs N) [F15.X6 N] F15.i (fun x k => F15.C N x.1 x.2.1 x.2.2.1 x.2.2.2.1 x.2.2.2.2.1 x.2.2.2.2.2.1 x.2.2.2.2.2.2.1 x.2.2.2.2.2.2.2.1 (fun r0 => k (Sh.mk F15.o0 (r0, ())))) (by intros; rw [F15.C_eq]; kernel_rfl) (by kernel_rfl) (by kernel_rfl) (by kernel_rfl) (by kernel_rfl) rfl (by kernel_rfl) rfl (by kernel_rfl) (by kernel_rfl) (by kernel_rfl) (.dead _ 15) rfl
end Go.Vi.B
/- minecontrol/minecontrolref05.Nothing -/
namespace Go.Vi.B
open Go.Proofs
set_option linter.unusedVariables false
set_option maxRecDepth 100000
abbrev F44.i : Sh := []
abbrev F44.o0 : Sh := [(0, .agg [.i, .i])]
noncomputable def F44.K {β : Type} (N : Nat) (k0 : Int → Int → Option β) : Option β :=
 k0 (-1125899906842624) 1125899906842624
noncomputable def F44.fx : Fx := ⟨Try.prog, [0], [], [(0,[0]),(1,[0])], 2, []⟩
noncomputable def F44.cs (N : Nat) : List (Ctr Try.prog) := []
noncomputable def F44.C {β : Type} (N : Nat) := (Sealed fun β => @F44.K β).1 β N
theorem F44.C_eq {β : Type} (N : Nat) : @F44.C β N = @F44.K β N := congrFun (congrFun (Sealed fun β => @F44.K β).2 β) N
noncomputable def F44.X (N : Nat) : Ctr Try.prog := mkF 44 Try.f44 F44.fx (F44.cs N) [] F44.i (fun x k => F44.C N (fun r0 r1 => k (Sh.mk F44.o0 (r0, r1, ())))) (by intros; rw [F44.C_eq]; kernel_rfl) (by kernel_rfl) (by kernel_rfl) (by kernel_rfl) (by kernel_rfl) rfl (by kernel_rfl) rfl (by kernel_rfl) (by kernel_rfl) (by kernel_rfl) (.dead _ 44) rfl
end Go.Vi.B
/- minecontrol/minecontrolref11.Flows -/
namespace Go.Vi.B
open Go.Proofs
set_option linter.unusedVariables false
set_option maxRecDepth 100000
abbrev F16.i : Sh := [(0, .agg [.lst .frz 62 kd1, .lst .frz 71 kd8, .lst .frz 100 kd11, .lst .frz 55 kd13]), (2, .agg [.lst .frz 3 .i, .lst .frz 3 .i]), (4, .agg [.lst .frz 3 .i, .lst .frz 3 .i])]
abbrev F16.o0 : Sh := [(0, .one (.view 0 0)), (1, .slot true [.lst .own 57 kd0])]
noncomputable def F16.l6 {β : Type} (N : Nat) : Nat → (List Pl) → (List Ro) → (List Fa) → (List Do) → (List Int) → (List Int) → (List Int) → (List Int) → (List Sp) → (List Bool) → (List Sp) → Int → (List Pl → List Ro → List Fa → List Do → List Int → List Int → List Int → List Int → List Sp → List Bool → List Sp → Int → Bool → Option β) → Option β
 | 0, _, _, _, _, _, _, _, _, _, _, _, _, _ => none
 | n + 1, v0, v1, v2, v3, v4, v5, v6, v7, v8, v9, v10, v11, k0 =>
  bl (v11 < (v1.length : Int)) (k0 v0 v1 v2 v3 v4 v5 v6 v7 v8 v9 v10 v11 (decide (v11 < (v1.length : Int)))) <|
  ck (0 ≤ v11) <|
  ge (v1[v11.toNat]?) fun x1 =>
  bl (!x1.2.2.2.2.2.1) (
   ck (v10.length + 1 ≤ 1000000000) <|
   F16.l6 N n v0 v1 v2 v3 v4 v5 v6 v7 v8 v9 (v10 ++ [(0, 0)]) (w (v11 + 1)) k0) <|
  F44.C N fun r2 r3 =>
  ck (0 ≤ x1.1) <|
  ge (v9[x1.1.toNat]?) fun _ =>
  ge (v9[x1.1.toNat]?) fun x5 =>
  bl x5 (
   ck (v10.length + 1 ≤ 1000000000) <|
   F16.l6 N n v0 v1 v2 v3 v4 v5 v6 v7 v8 v9 (v10 ++ [(r2, r3)]) (w (v11 + 1)) k0) <|
  ck (0 ≤ x1.1) <|
  ge (v6[x1.1.toNat]?) fun x6 =>
  ck (0 ≤ x1.2.1) <|
  ge (v7[x1.2.1.toNat]?) fun x7 =>
  F45.C N v0 v1 v2 v3 v4 v5 v11 (w (x6 - x7)) fun r8 =>
  ck (0 ≤ x1.1) <|
  ge (v7[x1.1.toNat]?) fun x9 =>
  ck (0 ≤ x1.2.1) <|
  ge (v6[x1.2.1.toNat]?) fun x10 =>
  F46.C N v0 v1 v2 v3 v4 v5 v11 (w (x9 - x10)) fun r11 =>
  ck (v10.length + 1 ≤ 1000000000) <|
  F16.l6 N n v0 v1 v2 v3 v4 v5 v6 v7 v8 v9 (v10 ++ [(r8, r11)]) (w (v11 + 1)) k0
noncomputable def F16.K {β : Type} (N : Nat) (a0 : List Pl) (a1 : List Ro) (a2 : List Fa) (a3 : List Do) (a4 a5 a6 a7 : List Int) (k0 : List Sp → Option β) : Option β :=
 F13.C N a0 a1 a2 a3 a4 a5 a6 a7 fun r1 =>
 br (r1 != 0) (k0 []) <|
 F19.C N a0 a1 fun r2 =>
 F16.l6 N N a0 a1 a2 a3 a4 a5 a6 a7 [] r2 [] 0 fun _ _ _ _ _ _ _ _ _ _ z22 _ _ =>
 k0 z22
noncomputable def F16.fx : Fx := ⟨Try.prog, [], [], [(0,[3,4,5,6]),(1,[3,4,5,6,16]),(2,[6]),(3,[3,4,5,6,7]),(4,[3,4,5,6,7,8]),(5,[3,4,5,6,7,8,9]),(6,[3,4,5,6,7,8,9,25]),(7,[3,4,5,6,7,8,9]),(8,[3,4,5,6,7,8,9,10]),(9,[3,4,5,6,7,8,9,10,11]),(10,[3,4,5,6,7,8,9,10,11,37]),(11,[3,4,5,6,7,8,9,10,11]),(12,[3,4,5,6,7,8,9,10,11,43]),(13,[3,4,5,6,7,8,9,11]),(14,[3,4,5,6,7,8,9]),(15,[6])], 84, []⟩
noncomputable def F16.cs (N : Nat) : List (Ctr Try.prog) := [F13.X N, F19.X N, F44.X N, F45.X N, F46.X N]
abbrev F16.s6 : Sh := [(6, .one (.addr 3 0)), (7, .slot false [.lst .frz 62 kd1, .lst .frz 71 kd8, .lst .frz 100 kd11, .lst .frz 55 kd13]), (8, .one (.addr 4 0)), (9, .slot false [.lst .frz 3 .i, .lst .frz 3 .i]), (10, .one (.addr 5 0)), (11, .slot false [.lst .frz 3 .i, .lst .frz 3 .i]), (12, .one (.view 6 0)), (13, .slot true [.lst .own 57 kd0]), (14, .one (.view 7 0)), (15, .slot true [.lst .own 4 .bool]), (16, .one (.view 8 0)), (17, .slot true [.lst .own 57 kd0]), (18, .one .i)]
abbrev F16.e6_0 : Sh := [(6, .one (.addr 3 0)), (7, .slot false [.lst .frz 62 kd1, .lst .frz 71 kd8, .lst .frz 100 kd11, .lst .frz 55 kd13]), (8, .one (.addr 4 0)), (9, .slot false [.lst .frz 3 .i, .lst .frz 3 .i]), (10, .one (.addr 5 0)), (11, .slot false [.lst .frz 3 .i, .lst .frz 3 .i]), (12, .one (.view 6 0)), (13, .slot true [.lst .own 57 kd0]), (14, .one (.view 7 0)), (15, .slot true [.lst .own 4 .bool]), (16, .one (.view 8 0)), (17, .slot true [.lst .own 57 kd0]), (18, .one .i), (50, .one .bool)]
noncomputable def F16.X6 (N : Nat) : LpC Try.prog F16.fx := mkL (F16.cs N) [] ((loopsOf (bodyOf Try.f16)).getD 0 .skip) 6 [3,4,5,6,7,8,9] (by kernel_rfl) (by kernel_rfl) (by kernel_rfl) F16.s6 (fun n x k => F16.l6 N n x.1 x.2.1 x.2.2.1 x.2.2.2.1 x.2.2.2.2.1 x.2.2.2.2.2.1 x.2.2.2.2.2.2.1 x.2.2.2.2.2.2.2.1 x.2.2.2.2.2.2.2.2.1 x.2.2.2.2.2.2.2.2.2.1 x.2.2.2.2.2.2.2.2.2.2.1 x.2.2.2.2.2.2.2.2.2.2.2.1 (fun r0 r1 r2 r3 r4 r5 r6 r7 r8 r9 r10 r11 r12 => k (.exit 0) (Sh.mk F16.e6_0 (r0, r1, r2, r3, r4, r5, r6, r7, r8, r9, r10, r11, r12, ())))) (fun _ _ => rfl) (fun _ _ _ => by kernel_rfl) N
noncomputable def F16.C {β : Type} (N : Nat) := (Sealed fun β => @F16.K β).1 β N
theorem F16.C_eq {β : Type} (N : Nat) : @F16.C β N = @F16.K β N := congrFun (congrFun (Sealed fun β => @F16.K β).2 β) N
noncomputable def F16.X (N : Nat) : Ctr Try.prog := mkF 16 Try.f16 F16.fx (F16.cs N) [F16.X6 N] F16.i (fun x k => F16.C N x.1 x.2.1 x.2.2.1 x.2.2.2.1 x.2.2.2.2.1 x.2.2.2.2.2.1 x.2.2.2.2.2.2.1 x.2.2.2.2.2.2.2.1 (fun r0 => k (Sh.mk F16.o0 (r0, ())))) (by intros; rw [F16.C_eq]; kernel_rfl) (by kernel_rfl) (by kernel_rfl) (by kernel_rfl) (by kernel_rfl) rfl (by kernel_rfl) rfl (by kernel_rfl) (by kernel_rfl) (by kernel_rfl) (.dead _ 16) rfl
end Go.Vi.B
/- minecontrol/minecontrolref01.Spans -/
namespace Go.Vi.B
open Go.Proofs
set_option linter.unusedVariables false
set_option maxRecDepth 100000
abbrev F14.i : Sh := [(0, .one (.lst .frz 57 kd0)), (2, .one (.lst .frz 57 kd0))]
abbrev F14.o0 : Sh := [(0, .one .bool)]
noncomputable def F14.l4 {β : Type} (N : Nat) : Nat → (List Sp) → (List Sp) → Bool → Int → (Bool → Option β) → (List Sp → List Sp → Bool → Int → Bool → Option β) → Option β
 | 0, _, _, _, _, _, _ => none
 | n + 1, v0, v1, v2, v3, k0, k1 =>
  bl (v3 < (v0.length : Int)) (k1 v0 v1 v2 v3 (decide (v3 < (v0.length : Int)))) <|
  ck (0 ≤ v3) <|
  ge (v0[v3.toNat]?) fun x1 =>
  ck (0 ≤ v3) <|
  ge (v1[v3.toNat]?) fun x2 =>
  br (!((x1.1 == x2.1) && ((x1.2 == x2.2) && true))) (k0 false) <|
  F14.l4 N n v0 v1 v2 (w (v3 + 1)) k0 k1
noncomputable def F14.K {β : Type} (N : Nat) (a0 a1 : List Sp) (k0 : Bool → Option β) : Option β :=
 br ((a0.length : Int) != (a1.length : Int)) (k0 false) <|
 F14.l4 N N a0 a1 false 0 (fun z3 => k0 z3) fun _ _ _ _ _ =>
 k0 true
noncomputable def F14.fx : Fx := ⟨Try.prog, [], [], [(0,[0,1,4]),(1,[0,1,4,10]),(2,[4]),(3,[0,1,4,5]),(4,[0,1,4,5,14]),(5,[0,1,4,5]),(6,[0,1,4,5,25]),(7,[4]),(8,[4])], 26, []⟩
noncomputable def F14.cs (N : Nat) : List (Ctr Try.prog) := []
abbrev F14.s4 : Sh := [(0, .one (.lst .frz 57 kd0)), (2, .one (.lst .frz 57 kd0)), (8, .one .bool), (10, .one .i)]
abbrev F14.e4_0 : Sh := [(8, .one .bool)]
abbrev F14.e4_1 : Sh := [(0, .one (.lst .frz 57 kd0)), (2, .one (.lst .frz 57 kd0)), (8, .one .bool), (10, .one .i), (28, .one .bool)]
noncomputable def F14.X4 (N : Nat) : LpC Try.prog F14.fx := mkL (F14.cs N) [] ((loopsOf (bodyOf Try.f14)).getD 0 .skip) 4 [0,1,4,5] (by kernel_rfl) (by kernel_rfl) (by kernel_rfl) F14.s4 (fun n x k => F14.l4 N n x.1 x.2.1 x.2.2.1 x.2.2.2.1 (fun r0 => k (.ret) (Sh.mk F14.e4_0 (r0, ()))) (fun r0 r1 r2 r3 r4 => k (.exit 0) (Sh.mk F14.e4_1 (r0, r1, r2, r3, r4, ())))) (fun _ _ => rfl) (fun _ _ _ => by kernel_rfl) N
noncomputable def F14.C {β : Type} (N : Nat) := (Sealed fun β => @F14.K β).1 β N
theorem F14.C_eq {β : Type} (N : Nat) : @F14.C β N = @F14.K β N := congrFun (congrFun (Sealed fun β => @F14.K β).2 β) N
noncomputable def F14.X (N : Nat) : Ctr Try.prog := mkF 14 Try.f14 F14.fx (F14.cs N) [F14.X4 N] F14.i (fun x k => F14.C N x.1 x.2.1 (fun r0 => k (Sh.mk F14.o0 (r0, ())))) (by intros; rw [F14.C_eq]; kernel_rfl) (by kernel_rfl) (by kernel_rfl) (by kernel_rfl) (by kernel_rfl) rfl (by kernel_rfl) rfl (by kernel_rfl) (by kernel_rfl) (by kernel_rfl) (.dead _ 14) rfl
end Go.Vi.B
/- What flows a certificate tells. -/
namespace Go.Vi.A
/-- One road's flows. -/
def flowC (A : Nat → Bool) (dz : DS) (fz : FS) (lo hi : List Int) (i : Nat) (r : Ro) : Sp :=
  if r.2.2.2.2.2.1 = true then (0, 0) else if A r.1.toNat = true then
    (fLow (drop dz fz (i : Int) r) (lo.getD r.1.toNat 0 - hi.getD r.2.1.toNat 0), fHigh (drop dz fz (i : Int) r) (hi.getD r.1.toNat 0 - lo.getD r.2.1.toNat 0))
  else (-1125899906842624, 1125899906842624)
def ro0 : Ro := (0, 0, 0, 0, false, true, (0, 0), (0, 0))
def flowsL (A : Nat → Bool) (pl : List Pl) (ro : List Ro) (fa : List Fa) (dr : List Do) (sf sd lo hi : List Int) : List Sp :=
  if certE A pl ro fa dr sf sd lo hi = 0 then tab ro.length fun i => flowC A (dr.zip sd) (fa.zip sf) lo hi i (ro.getD i ro0) else []
theorem tab_succ {α : Type} (n : Nat) (f : Nat → α) : tab (n + 1) f = tab n f ++ [f n] := by unfold tab; rw [List.range_succ, List.map_append]; rfl
theorem pipes_has {dz : DS} {fz : FS} : ∀ {l : List Ro} {i m : Nat} {r : Ro}, l[m]? = some r → r.2.2.2.2.2.1 = false → pOf dz fz ((i + m : Nat) : Int) r ∈ pipesF dz fz i l
  | [], _, _, _, h, _ => by simp at h
  | a :: t, i, 0, r, h, hc => by
    rw [List.getElem?_cons_zero] at h
    cases h
    simp only [pipesF, hc, Bool.false_eq_true, if_false]
    exact List.mem_cons_self
  | a :: t, i, m + 1, r, h, hc => by
    rw [List.getElem?_cons_succ] at h
    have := pipes_has (dz := dz) (fz := fz) (i := i + 1) h hc
    rw [show i + 1 + m = i + (m + 1) by omega] at this
    simp only [pipesF]
    split
    · exact this
    · exact List.mem_cons_of_mem _ this
theorem certE_zero {A : Nat → Bool} {pl : List Pl} {ro : List Ro} {fa : List Fa} {dr : List Do} {sf sd lo hi : List Int} (h : certE A pl ro fa dr sf sd lo hi = 0) :
    airE pl ro fa dr = 0 ∧ fitE fa dr sf sd = 0 ∧ lo.length = pl.length ∧ hi.length = pl.length ∧ ferr rngF 0 lo = 0 ∧ ferr rngF 0 hi = 0 ∧ ferr (placeC A (dr.zip sd) (fa.zip sf) ro lo hi) 0 pl = 0 := by
  unfold certE at h
  rw [thn_zero] at h
  obtain ⟨h1, h⟩ := h
  split at h
  · rename_i h2
    split at h
    · rename_i h3
      split at h
      · rename_i h4
        rw [thn_zero] at h
        obtain ⟨h5, h6⟩ := h
        unfold rngE at h5
        split at h5
        · rename_i h7
          split at h5
          · rename_i h8; exact ⟨h1, h2, by omega, by omega, h7, h8, h6⟩
          · cases h5
        · cases h5
      · cases h
    · cases h
  · cases h
end Go.Vi.A
namespace Go.Vi.B
open Go.Proofs Go.Vi.A
set_option linter.unusedVariables false
variable {N : Nat} (hN : 1000 ≤ N) {β : Type}
include hN in
theorem ref01_Spans {a : List Sp} (ha : a.length ≤ 128) (k : Bool → Option β) : F14.C N a a k = k true := by
  rw [F14.C_eq]; unfold F14.K
  simp only [bne_self_eq_false, res]
  obtain ⟨s, hs, e⟩ := lfor (len := a.length) (L := fun n j (_ : Unit) => F14.l4 N n a a false (j : Int) (fun z3 => k z3) fun _ _ _ _ _ => k true) (k := fun _ => k true) (fun _ _ => True)
    (fun n s hs => by simp only [F14.l4, res, Int.lt_irrefl, if_false])
    (fun j s hj hs => by
      obtain ⟨x, hx⟩ := getl hj
      refine ⟨(), trivial, fun n => ?_⟩
      simp only [F14.l4, res, Int.toNat_natCast, hx, ge_some, w_succ (show j < 4000000000 by omega), beq_self_eq_true, Bool.and_self]
      rw [if_pos (by omega), if_pos (by omega), if_pos (by omega)]) 0 () N trivial (by omega) (by omega)
  exact e
include hN in
theorem certify_Flows (pl : List Pl) (ro : List Ro) (fa : List Fa) (dr : List Do) (sf sd lo hi : List Int) (k : List Sp → Option β) :
    F15.C N pl ro fa dr sf sd lo hi k = k (flowsL (airB pl ro) pl ro fa dr sf sd lo hi) := by
  rw [F15.C_eq]; unfold F15.K flowsL
  rw [certify_Check hN]
  by_cases c : certE (airB pl ro) pl ro fa dr sf sd lo hi = 0
  · obtain ⟨h0, h1, h2, h3, h4, h5, h6⟩ := certE_zero c
    have h := AirOk.of h0
    have hs := SetOk.of h1
    have hl := rng_ok (pl := pl) h4 h2
    have hh := rng_ok (pl := pl) h5 h3
    have hm := h.nro
    rw [c, if_pos rfl]
    simp only [bne_self_eq_false, res, certify_Lost hN h0, make_eq hN h hs, tab_rep, Int.toNat_natCast]
    rw [if_pos (show 0 ≤ (ro.length : Int) by omega), if_pos (show (ro.length : Int) ≤ 1000000000 by omega)]
    have hP := pipesF_len (dr.zip sd) (fa.zip sf) ro 0
    obtain ⟨s, hs', e⟩ := lfor (len := (pipesF (dr.zip sd) (fa.zip sf) 0 ro).length) (L := fun n j (s : List Sp) => F15.l6 N n lo hi [] s (tab pl.length fun i => !airB pl ro i) (pipesF (dr.zip sd) (fa.zip sf) 0 ro) (tab pl.length fun p => some (atF p 0 (pipesF (dr.zip sd) (fa.zip sf) 0 ro))) ((pipesF (dr.zip sd) (fa.zip sf) 0 ro).length : Int) (j : Int) fun _ _ _ z18 _ _ _ _ _ _ => k z18) (k := k)
      (fun j s => s = tab ro.length fun i => if ((pipesF (dr.zip sd) (fa.zip sf) 0 ro).take j).any (fun x => x.2.1 == (i : Int)) = true then flowC (airB pl ro) (dr.zip sd) (fa.zip sf) lo hi i (ro.getD i ro0) else (0, 0))
      (fun n s hs => by simp only [F15.l6, res, Int.lt_irrefl, if_false])
      (fun j s hj hs => by
        obtain ⟨x, hx⟩ := getl hj
        obtain ⟨j', r, hr, hxe, hc⟩ := pipes_mem (List.mem_of_getElem? hx)
        rw [Nat.zero_add] at hxe
        have hR := h.road r (List.mem_of_getElem? hr)
        have ok := pOf_ok h sf sd (j' : Int) (List.mem_of_getElem? hr)
        rw [← hxe] at ok
        have f1 : x.1.1 = r.1 := by rw [hxe]; rfl
        have f2 : x.1.2.1 = r.2.1 := by rw [hxe]; rfl
        have f3 : x.2.1 = (j' : Int) := by rw [hxe]; rfl
        have f4 : pdrop x = drop (dr.zip sd) (fa.zip sf) (j' : Int) r := by rw [hxe]; exact funext (pdrop_pOf _ _ _ _)
        obtain ⟨u, hu, u0, u1⟩ := hl.get hR.frm.1 hR.frm.2
        obtain ⟨v, hv, v0, v1⟩ := hl.get hR.to.1 hR.to.2
        obtain ⟨u', hu', u0', u1'⟩ := hh.get hR.frm.1 hR.frm.2
        obtain ⟨v', hv', v0', v1'⟩ := hh.get hR.to.1 hR.to.2
        have hj' : j' < ro.length := (List.getElem?_eq_some_iff.1 hr).1
        have hff := hR.frm
        have eL := pipe_Low (β := β) hN ok (u - v')
        have eH := pipe_High (β := β) hN ok (u' - v)
        refine ⟨_, rfl, fun n => ?_⟩
        subst hs
        have set' : ∀ y, flowC (airB pl ro) (dr.zip sd) (fa.zip sf) lo hi j' r = y → (tab ro.length fun i => if ((pipesF (dr.zip sd) (fa.zip sf) 0 ro).take j).any (fun x => x.2.1 == (i : Int)) = true then flowC (airB pl ro) (dr.zip sd) (fa.zip sf) lo hi i (ro.getD i ro0) else (0, 0)).set j' y = tab ro.length fun i => if ((pipesF (dr.zip sd) (fa.zip sf) 0 ro).take (j + 1)).any (fun x => x.2.1 == (i : Int)) = true then flowC (airB pl ro) (dr.zip sd) (fa.zip sf) lo hi i (ro.getD i ro0) else (0, 0) := fun y hy => tab_set _ (by
            rw [take_snoc hx, List.any_append, getD_eq hr, hy]
            simp [f3]) (fun i hi hne => by
            rw [take_snoc hx, List.any_append]
            have : (x.2.1 == (i : Int)) = false := by rw [f3]; exact beq_eq_false_iff_ne.2 (by omega)
            rw [List.any_cons, this, List.any_nil, Bool.or_self, Bool.or_false])
        simp only [F15.l6, res, Int.toNat_natCast, hx, ge_some, w_succ (show j < 4000000000 by omega), f1, f2, f3, tab_get (show r.1.toNat < pl.length by omega), hu, hv, hu', hv', hR.frm.1, hR.to.1, if_true, tab_get hj', w_id (x := u - v') (by omega) (by omega), w_id (x := u' - v) (by omega) (by omega)]
        rw [f1, f2, f3] at eL eH
        rw [if_pos (by omega), if_pos (by omega), if_pos (by omega)]
        cases ha : airB pl ro r.1.toNat with
        | false =>
          simp only [res]
          rw [set' _ (by unfold flowC; rw [hc, ha]; rfl)]
        | true =>
          simp only [res]
          rw [eL, eH, set' _ (by unfold flowC; rw [hc, ha, f4, getD_eq hu, getD_eq hv, getD_eq hu', getD_eq hv']; rfl), if_pos (by omega)]) 0 (tab ro.length fun _ => (0, 0)) N (tab_congr fun i _ => by simp) (by omega) (by omega)
    refine e.trans ?_
    rw [hs', List.take_of_length_le (Nat.le_refl _)]
    refine congrArg k (tab_congr fun i hi => ?_)
    obtain ⟨r, hr⟩ := getl hi
    rw [getD_eq hr]
    cases hc : r.2.2.2.2.2.1 with
    | true => unfold flowC; rw [hc, if_pos rfl]; simp
    | false =>
      rw [if_pos]
      rw [List.any_eq_true]
      exact ⟨_, pipes_has (dz := dr.zip sd) (fz := fa.zip sf) (i := 0) hr hc, by rw [Nat.zero_add]; exact beq_self_eq_true _⟩
  · rw [if_neg c]
    simp only [show (certE (airB pl ro) pl ro fa dr sf sd lo hi != 0) = true from bne_iff_ne.2 c, res]
include hN in
theorem ref11_Flows (pl : List Pl) (ro : List Ro) (fa : List Fa) (dr : List Do) (sf sd lo hi : List Int) (k : List Sp → Option β) :
    F16.C N pl ro fa dr sf sd lo hi k = k (flowsL (airB pl ro) pl ro fa dr sf sd lo hi) := by
  rw [F16.C_eq]; unfold F16.K flowsL
  rw [ref11_Check hN]
  by_cases c : certE (airB pl ro) pl ro fa dr sf sd lo hi = 0
  · obtain ⟨h0, h1, h2, h3, h4, h5, h6⟩ := certE_zero c
    have h := AirOk.of h0
    have hs := SetOk.of h1
    have hl := rng_ok (pl := pl) h4 h2
    have hh := rng_ok (pl := pl) h5 h3
    have hm := h.nro
    rw [c, if_pos rfl]
    simp only [bne_self_eq_false, res, ref01_Airy hN h.npl hm h.rd]
    obtain ⟨s, hs', e⟩ := lfor (len := ro.length) (L := fun n j (s : List Sp) => F16.l6 N n pl ro fa dr sf sd lo hi [] (tab pl.length (airB pl ro)) s (j : Int) fun _ _ _ _ _ _ _ _ _ _ z22 _ _ => k z22) (k := k)
      (fun j s => s = tab j fun i => flowC (airB pl ro) (dr.zip sd) (fa.zip sf) lo hi i (ro.getD i ro0))
      (fun n s hs => by simp only [F16.l6, res, Int.lt_irrefl, if_false])
      (fun j s hj hs' => by
        obtain ⟨r, hr⟩ := getl hj
        have hR := h.road r (List.mem_of_getElem? hr)
        obtain ⟨u, hu, u0, u1⟩ := hl.get hR.frm.1 hR.frm.2
        obtain ⟨v, hv, v0, v1⟩ := hl.get hR.to.1 hR.to.2
        obtain ⟨u', hu', u0', u1'⟩ := hh.get hR.frm.1 hR.frm.2
        obtain ⟨v', hv', v0', v1'⟩ := hh.get hR.to.1 hR.to.2
        have hff := hR.frm
        have hr' : ro[((j : Nat) : Int).toNat]? = some r := by rw [Int.toNat_natCast]; exact hr
        have eL := fun d k => ref09_Lowest (β := β) hN h hs (Int.natCast_nonneg j) hr' d k
        have eH := fun d k => ref09_Highest (β := β) hN h hs (Int.natCast_nonneg j) hr' d k
        refine ⟨_, rfl, fun n => ?_⟩
        subst hs'
        rw [tab_succ, getD_eq hr]
        simp only [F16.l6, F44.C_eq, F44.K, res, tab_len, Int.toNat_natCast, hr, ge_some, w_succ (show j < 4000000000 by omega), tab_get (show r.1.toNat < pl.length by omega), hu, hv, hu', hv', hR.frm.1, hR.to.1, if_true, w_id (x := u - v') (by omega) (by omega), w_id (x := u' - v) (by omega) (by omega), eL, eH]
        rw [if_pos (by omega), if_pos (by omega), if_pos (by omega)]
        unfold flowC
        cases hc : r.2.2.2.2.2.1 with
        | true => simp only [res, if_true]; rw [if_pos (by omega)]
        | false =>
          simp only [res, Bool.false_eq_true, if_false]
          cases ha : airB pl ro r.1.toNat with
          | false => simp only [res, Bool.false_eq_true, if_false]
          | true => simp only [res, if_true, getD_eq hu, getD_eq hv, getD_eq hu', getD_eq hv']; rw [if_pos (by omega)]) 0 [] N rfl (by omega) (by omega)
    refine e.trans ?_
    rw [hs']
  · rw [if_neg c]
    simp only [show (certE (airB pl ro) pl ro fa dr sf sd lo hi != 0) = true from bne_iff_ne.2 c, res]
theorem flowsL_len (A : Nat → Bool) (pl : List Pl) (ro : List Ro) (fa : List Fa) (dr : List Do) (sf sd lo hi : List Int) : (flowsL A pl ro fa dr sf sd lo hi).length ≤ 128 := by
  unfold flowsL
  split
  · rename_i c
    rw [tab_len]
    exact (AirOk.of (certE_zero c).1).nro
  · simp
end Go.Vi.B
/- minecontrol/minecontrollaw11.awake -/
namespace Go.Vi.B
open Go.Proofs
set_option linter.unusedVariables false
set_option maxRecDepth 100000
abbrev F17.i : Sh := []
abbrev F17.o0 : Sh := [(0, .one .bool)]
noncomputable def F17.K {β : Type} (N : Nat) (k0 : Bool → Option β) : Option β :=
 F15.C N [(0, true), (0, false)] [(1, (0, (1, (1, (false, (false, ((1, 1), ((-100), (-100)))))))))] [] [] [] [] [0, 100] [0, 100] fun r1 =>
 F12.C N [(0, true), (0, false)] [(1, (0, (1, (1, (false, (false, ((1, 1), ((-100), (-100)))))))))] [] [] [] [] [0, 100] [0, 100] fun r2 =>
 bl (r2 = 0) (k0 false) <|
 F12.C N [(0, true), (0, false)] [(1, (0, (1, (1, (false, (false, ((1, 1), ((-100), (-100)))))))))] [] [] [] [] [0, 100] [0, 99] fun r3 =>
 bl (r3 = 12) (k0 false) <|
 F14.C N r1 [(0, 0)] fun r4 =>
 k0 r4
noncomputable def F17.fx : Fx := ⟨Try.prog, [], [], [(0,[]),(1,[1]),(2,[2]),(3,[2,3]),(4,[0])], 42, []⟩
noncomputable def F17.cs (N : Nat) : List (Ctr Try.prog) := [F15.X N, F12.X N, F14.X N]
noncomputable def F17.C {β : Type} (N : Nat) := (Sealed fun β => @F17.K β).1 β N
theorem F17.C_eq {β : Type} (N : Nat) : @F17.C β N = @F17.K β N := congrFun (congrFun (Sealed fun β => @F17.K β).2 β) N
noncomputable def F17.X (N : Nat) : Ctr Try.prog := mkF 17 Try.f17 F17.fx (F17.cs N) [] F17.i (fun x k => F17.C N (fun r0 => k (Sh.mk F17.o0 (r0, ())))) (by intros; rw [F17.C_eq]; kernel_rfl) (by kernel_rfl) (by kernel_rfl) (by kernel_rfl) (by kernel_rfl) rfl (by kernel_rfl) rfl (by kernel_rfl) (by kernel_rfl) (by kernel_rfl) (.dead _ 17) rfl
end Go.Vi.B
/- The sanity check of chapter 11. -/
namespace Go.Vi.B
open Go.Proofs Go.Vi.A
set_option linter.unusedVariables false
set_option linter.unusedSimpArgs false
set_option maxRecDepth 100000
variable {β : Type} {N : Nat} (hN : 1000 ≤ N)
theorem air_awake : airB [(0, true), (0, false)] [(1, (0, (1, (1, (false, (false, ((1, 1), ((-100), (-100)))))))))] = fun i => decide (i < 2) :=
  funext fun i => (air_of_shut (f := fun i => decide (i < 2)) (fun i p hp _ => by
    have := (List.getElem?_eq_some_iff.1 hp).1
    simpa using this) (fun i hi => by
    rw [decide_eq_true_eq] at hi
    have h0 : Air [(0, true), (0, false)] [(1, (0, (1, (1, (false, (false, ((1, 1), ((-100), (-100)))))))))] 0 := .top (p := (0, true)) rfl rfl
    rcases (show i = 0 ∨ i = 1 by omega) with e | e
    · subst e; exact h0
    · subst e; exact .back (r := (1, (0, (1, (1, (false, (false, ((1, 1), ((-100), (-100)))))))))) (by simp) rfl h0) (fun r hr _ => by
    rw [List.mem_singleton] at hr; subst hr; rfl) i).symm
include hN in
theorem awake11 (k : Bool → Option β) : F17.C N k = k true := by
  rw [F17.C_eq]; unfold F17.K
  have e1 : certE (fun i => decide (i < 2)) [(0, true), (0, false)] [(1, (0, (1, (1, (false, (false, ((1, 1), ((-100), (-100)))))))))] [] [] [] [] [0, 100] [0, 100] = 0 := by decide +kernel
  have e2 : certE (fun i => decide (i < 2)) [(0, true), (0, false)] [(1, (0, (1, (1, (false, (false, ((1, 1), ((-100), (-100)))))))))] [] [] [] [] [0, 100] [0, 99] = 12 := by decide +kernel
  have e3 : flowsL (fun i => decide (i < 2)) [(0, true), (0, false)] [(1, (0, (1, (1, (false, (false, ((1, 1), ((-100), (-100)))))))))] [] [] [] [] [0, 100] [0, 100] = [(0, 0)] := by decide +kernel
  rw [certify_Flows hN, certify_Check hN, air_awake, e1, e3]
  simp only [decide_true, res]
  rw [certify_Check hN, air_awake, e2]
  simp only [decide_true, res]
  simp only [if_true]
  rw [ref01_Spans hN (by decide)]
end Go.Vi.B
/- minecontrol/minecontrolref10.Up -/
namespace Go.Vi.B
open Go.Proofs
set_option linter.unusedVariables false
set_option maxRecDepth 100000
abbrev F82.i : Sh := [(0, .agg [.lst .frz 62 kd1, .lst .frz 71 kd8, .lst .frz 100 kd11, .lst .frz 55 kd13]), (2, .agg [.lst .frz 3 .i, .lst .frz 3 .i]), (4, .one (.lst .frz 3 .i)), (6, .one .i)]
abbrev F82.o0 : Sh := [(0, .tup [(false, [.i]), (false, [.bool])])]
noncomputable def F82.l1001 {β : Type} (N : Nat) : Nat → Int → (List Pl) → (List Ro) → (List Fa) → (List Do) → (List Int) → (List Int) → Int → Bool → (List Int) → Int → Int → (Int → List Pl → List Ro → List Fa → List Do → List Int → List Int → Int → Bool → List Int → Int → Int → Bool → Option β) → (Int → Bool → Option β) → Option β
 | 0, _, _, _, _, _, _, _, _, _, _, _, _, _, _ => none
 | n + 1, v0, v1, v2, v3, v4, v5, v6, v7, v8, v9, v10, v11, k0, k1 =>
  ck (0 ≤ v0) <|
  ge (v9[v0.toNat]?) fun _ =>
  ge (v9[v0.toNat]?) fun _ =>
  F40.C N v1 v2 v3 v4 v5 v6 (v9.set v0.toNat (if 70368744177664 < (w (v10 + v11)) then 70368744177664 else (w (v10 + v11)))) v0 fun r3 =>
  br (r3 ≥ 0) (
   k0 v0 v1 v2 v3 v4 v5 v6 v7 v8 (v9.set v0.toNat (if 70368744177664 < (w (v10 + v11)) then 70368744177664 else (w (v10 + v11)))) v10 v11 (decide (r3 ≥ 0))) <|
  ck (0 ≤ v0) <|
  ge ((v9.set v0.toNat (if 70368744177664 < (w (v10 + v11)) then 70368744177664 else (w (v10 + v11))))[v0.toNat]?) fun _ =>
  ge ((v9.set v0.toNat (if 70368744177664 < (w (v10 + v11)) then 70368744177664 else (w (v10 + v11))))[v0.toNat]?) fun x5 =>
  br (x5 = 70368744177664) (k1 0 false) <|
  ck (0 ≤ v0) <|
  ge ((v9.set v0.toNat (if 70368744177664 < (w (v10 + v11)) then 70368744177664 else (w (v10 + v11))))[v0.toNat]?) fun _ =>
  ge ((v9.set v0.toNat (if 70368744177664 < (w (v10 + v11)) then 70368744177664 else (w (v10 + v11))))[v0.toNat]?) fun x7 =>
  F82.l1001 N n v0 v1 v2 v3 v4 v5 v6 v7 v8 (v9.set v0.toNat (if 70368744177664 < (w (v10 + v11)) then 70368744177664 else (w (v10 + v11)))) x7 (w (v11 * 2)) k0 k1
noncomputable def F82.l12 {β : Type} (N : Nat) : Nat → Int → (List Pl) → (List Ro) → (List Fa) → (List Do) → (List Int) → (List Int) → Int → Bool → (List Int) → Int → Int → (Int → List Pl → List Ro → List Fa → List Do → List Int → List Int → Int → Bool → List Int → Int → Int → Bool → Option β) → Option β
 | 0, _, _, _, _, _, _, _, _, _, _, _, _, _ => none
 | n + 1, v0, v1, v2, v3, v4, v5, v6, v7, v8, v9, v10, v11, k0 =>
  bl ((w (v10 + 1)) < v11) (k0 v0 v1 v2 v3 v4 v5 v6 v7 v8 v9 v10 v11 (decide ((w (v10 + 1)) < v11))) <|
  ck (0 ≤ v0) <|
  ge (v9[v0.toNat]?) fun _ =>
  ge (v9[v0.toNat]?) fun _ =>
  F40.C N v1 v2 v3 v4 v5 v6 (v9.set v0.toNat (w (v10 + (w (Int.tdiv (w (v11 - v10)) 2))))) v0 fun r3 =>
  br (r3 ≥ 0) (
   ck (0 ≤ v0) <|
   ge ((v9.set v0.toNat (w (v10 + (w (Int.tdiv (w (v11 - v10)) 2)))))[v0.toNat]?) fun _ =>
   ge ((v9.set v0.toNat (w (v10 + (w (Int.tdiv (w (v11 - v10)) 2)))))[v0.toNat]?) fun x5 =>
   F82.l12 N n v0 v1 v2 v3 v4 v5 v6 v7 v8 (v9.set v0.toNat (w (v10 + (w (Int.tdiv (w (v11 - v10)) 2))))) v10 x5 k0) <|
  ck (0 ≤ v0) <|
  ge ((v9.set v0.toNat (w (v10 + (w (Int.tdiv (w (v11 - v10)) 2)))))[v0.toNat]?) fun _ =>
  ge ((v9.set v0.toNat (w (v10 + (w (Int.tdiv (w (v11 - v10)) 2)))))[v0.toNat]?) fun x7 =>
  F82.l12 N n v0 v1 v2 v3 v4 v5 v6 v7 v8 (v9.set v0.toNat (w (v10 + (w (Int.tdiv (w (v11 - v10)) 2))))) x7 v11 k0
noncomputable def F82.K {β : Type} (N : Nat) (a0 : List Pl) (a1 : List Ro) (a2 : List Fa) (a3 : List Do) (a4 a5 a6 : List Int) (a7 : Int) (k0 : Int → Bool → Option β) : Option β :=
 ck (0 + a6.length ≤ 1000000000) <|
 F40.C N a0 a1 a2 a3 a4 a5 a6 a7 fun r1 =>
 br (r1 ≥ 0) (
  ck (0 ≤ a7) <|
  ge (a6[a7.toNat]?) fun _ =>
  ge (a6[a7.toNat]?) fun x3 =>
  k0 x3 true) <|
 ck (0 ≤ a7) <|
 ge (a6[a7.toNat]?) fun _ =>
 ge (a6[a7.toNat]?) fun x5 =>
 F82.l1001 N N a7 a0 a1 a2 a3 a4 a5 0 false a6 x5 1 (fun z8 z9 z10 z11 z12 z13 z14 z15 z16 z17 z18 _ _ =>
  ck (0 ≤ z8) <|
  ge (z17[z8.toNat]?) fun _ =>
  ge (z17[z8.toNat]?) fun x22 =>
  F82.l12 N N z8 z9 z10 z11 z12 z13 z14 z15 z16 z17 z18 x22 fun _ _ _ _ _ _ _ _ _ _ _ z34 _ =>
  k0 z34 true) fun z36 z37 =>
 k0 z36 z37
noncomputable def F82.fx : Fx := ⟨Try.prog, [], [], [(0,[2,3,4,5,8,9]),(1,[3,4,5,8,9,10]),(2,[3,4,5,8,9,10,21]),(3,[8,9]),(4,[3,4,5,8,9,10,11,12]),(5,[3,4,5,8,9,10,11,12]),(6,[3,4,5,8,9,10,11,12,42]),(7,[3,4,5,8,9,10,12,47]),(8,[8,9]),(9,[3,4,5,8,9,10,11,12]),(10,[3,4,5,8,9,10,11,12]),(11,[3,4,5,8,9,10,11,13]),(12,[3,4,5,8,9,10,11,13,61]),(13,[3,4,5,8,9,10,11,13]),(14,[3,4,5,8,9,10,11,13,76]),(15,[3,4,5,8,9,10,11,13]),(16,[3,4,5,8,9,10,11,13]),(17,[8,9])], 86, []⟩
noncomputable def F82.cs (N : Nat) : List (Ctr Try.prog) := [F40.X N]
abbrev F82.s1001 : Sh := [(6, .one .i), (8, .one (.addr 4 0)), (9, .slot false [.lst .frz 62 kd1, .lst .frz 71 kd8, .lst .frz 100 kd11, .lst .frz 55 kd13]), (10, .one (.addr 5 0)), (11, .slot false [.lst .frz 3 .i, .lst .frz 3 .i]), (16, .one .i), (18, .one .bool), (20, .one (.view 10 0)), (21, .slot true [.lst .own 3 .i]), (22, .one .i), (24, .one .i)]
abbrev F82.e1001_0 : Sh := [(6, .one .i), (8, .one (.addr 4 0)), (9, .slot false [.lst .frz 62 kd1, .lst .frz 71 kd8, .lst .frz 100 kd11, .lst .frz 55 kd13]), (10, .one (.addr 5 0)), (11, .slot false [.lst .frz 3 .i, .lst .frz 3 .i]), (16, .one .i), (18, .one .bool), (20, .one (.view 10 0)), (21, .slot true [.lst .own 3 .i]), (22, .one .i), (24, .one .i), (84, .one .bool)]
abbrev F82.e1001_1 : Sh := [(16, .one .i), (18, .one .bool)]
noncomputable def F82.X1001 (N : Nat) : LpC Try.prog F82.fx := mkL (F82.cs N) [] ((loopsOf (bodyOf Try.f82)).getD 0 .skip) 1001 [3,4,5,8,9,10,11,12] (by kernel_rfl) (by kernel_rfl) (by kernel_rfl) F82.s1001 (fun n x k => F82.l1001 N n x.1 x.2.1 x.2.2.1 x.2.2.2.1 x.2.2.2.2.1 x.2.2.2.2.2.1 x.2.2.2.2.2.2.1 x.2.2.2.2.2.2.2.1 x.2.2.2.2.2.2.2.2.1 x.2.2.2.2.2.2.2.2.2.1 x.2.2.2.2.2.2.2.2.2.2.1 x.2.2.2.2.2.2.2.2.2.2.2.1 (fun r0 r1 r2 r3 r4 r5 r6 r7 r8 r9 r10 r11 r12 => k (.exit 0) (Sh.mk F82.e1001_0 (r0, r1, r2, r3, r4, r5, r6, r7, r8, r9, r10, r11, r12, ()))) (fun r0 r1 => k (.ret) (Sh.mk F82.e1001_1 (r0, r1, ())))) (fun _ _ => rfl) (fun _ _ _ => by kernel_rfl) N
abbrev F82.s12 : Sh := [(6, .one .i), (8, .one (.addr 4 0)), (9, .slot false [.lst .frz 62 kd1, .lst .frz 71 kd8, .lst .frz 100 kd11, .lst .frz 55 kd13]), (10, .one (.addr 5 0)), (11, .slot false [.lst .frz 3 .i, .lst .frz 3 .i]), (16, .one .i), (18, .one .bool), (20, .one (.view 10 0)), (21, .slot true [.lst .own 3 .i]), (22, .one .i), (26, .one .i)]
abbrev F82.e12_0 : Sh := [(6, .one .i), (8, .one (.addr 4 0)), (9, .slot false [.lst .frz 62 kd1, .lst .frz 71 kd8, .lst .frz 100 kd11, .lst .frz 55 kd13]), (10, .one (.addr 5 0)), (11, .slot false [.lst .frz 3 .i, .lst .frz 3 .i]), (16, .one .i), (18, .one .bool), (20, .one (.view 10 0)), (21, .slot true [.lst .own 3 .i]), (22, .one .i), (26, .one .i), (122, .one .bool)]
noncomputable def F82.X12 (N : Nat) : LpC Try.prog F82.fx := mkL (F82.cs N) [] ((loopsOf (bodyOf Try.f82)).getD 1 .skip) 12 [3,4,5,8,9,10,11,13] (by kernel_rfl) (by kernel_rfl) (by kernel_rfl) F82.s12 (fun n x k => F82.l12 N n x.1 x.2.1 x.2.2.1 x.2.2.2.1 x.2.2.2.2.1 x.2.2.2.2.2.1 x.2.2.2.2.2.2.1 x.2.2.2.2.2.2.2.1 x.2.2.2.2.2.2.2.2.1 x.2.2.2.2.2.2.2.2.2.1 x.2.2.2.2.2.2.2.2.2.2.1 x.2.2.2.2.2.2.2.2.2.2.2.1 (fun r0 r1 r2 r3 r4 r5 r6 r7 r8 r9 r10 r11 r12 => k (.exit 2) (Sh.mk F82.e12_0 (r0, r1, r2, r3, r4, r5, r6, r7, r8, r9, r10, r11, r12, ())))) (fun _ _ => rfl) (fun _ _ _ => by kernel_rfl) N
noncomputable def F82.C {β : Type} (N : Nat) := (Sealed fun β => @F82.K β).1 β N
theorem F82.C_eq {β : Type} (N : Nat) : @F82.C β N = @F82.K β N := congrFun (congrFun (Sealed fun β => @F82.K β).2 β) N
noncomputable def F82.X (N : Nat) : Ctr Try.prog := mkF 82 Try.f82 F82.fx (F82.cs N) [F82.X1001 N, F82.X12 N] F82.i (fun x k => F82.C N x.1 x.2.1 x.2.2.1 x.2.2.2.1 x.2.2.2.2.1 x.2.2.2.2.2.1 x.2.2.2.2.2.2.1 x.2.2.2.2.2.2.2.1 (fun r0 r1 => k (Sh.mk F82.o0 (r0, r1, ())))) (by intros; rw [F82.C_eq]; kernel_rfl) (by kernel_rfl) (by kernel_rfl) (by kernel_rfl) (by kernel_rfl) rfl (by kernel_rfl) rfl (by kernel_rfl) (by kernel_rfl) (by kernel_rfl) (.dead _ 82) rfl
end Go.Vi.B
/- minecontrol/minecontrolref10.Down -/
namespace Go.Vi.B
open Go.Proofs
set_option linter.unusedVariables false
set_option maxRecDepth 100000
abbrev F83.i : Sh := [(0, .agg [.lst .frz 62 kd1, .lst .frz 71 kd8, .lst .frz 100 kd11, .lst .frz 55 kd13]), (2, .agg [.lst .frz 3 .i, .lst .frz 3 .i]), (4, .one (.lst .frz 3 .i)), (6, .one .i)]
abbrev F83.o0 : Sh := [(0, .tup [(false, [.i]), (false, [.bool])])]
noncomputable def F83.l1001 {β : Type} (N : Nat) : Nat → Int → (List Pl) → (List Ro) → (List Fa) → (List Do) → (List Int) → (List Int) → Int → Bool → (List Int) → Int → Int → (Int → List Pl → List Ro → List Fa → List Do → List Int → List Int → Int → Bool → List Int → Int → Int → Bool → Option β) → (Int → Bool → Option β) → Option β
 | 0, _, _, _, _, _, _, _, _, _, _, _, _, _, _ => none
 | n + 1, v0, v1, v2, v3, v4, v5, v6, v7, v8, v9, v10, v11, k0, k1 =>
  ck (0 ≤ v0) <|
  ge (v9[v0.toNat]?) fun _ =>
  ge (v9[v0.toNat]?) fun _ =>
  F41.C N v1 v2 v3 v4 v5 v6 (v9.set v0.toNat (if (-70368744177664) > (w (v10 - v11)) then (-70368744177664) else (w (v10 - v11)))) v0 fun r3 =>
  br (r3 ≤ 0) (
   k0 v0 v1 v2 v3 v4 v5 v6 v7 v8 (v9.set v0.toNat (if (-70368744177664) > (w (v10 - v11)) then (-70368744177664) else (w (v10 - v11)))) v10 v11 (decide (r3 ≤ 0))) <|
  ck (0 ≤ v0) <|
  ge ((v9.set v0.toNat (if (-70368744177664) > (w (v10 - v11)) then (-70368744177664) else (w (v10 - v11))))[v0.toNat]?) fun _ =>
  ge ((v9.set v0.toNat (if (-70368744177664) > (w (v10 - v11)) then (-70368744177664) else (w (v10 - v11))))[v0.toNat]?) fun x5 =>
  br (x5 = (-70368744177664)) (k1 0 false) <|
  ck (0 ≤ v0) <|
  ge ((v9.set v0.toNat (if (-70368744177664) > (w (v10 - v11)) then (-70368744177664) else (w (v10 - v11))))[v0.toNat]?) fun _ =>
  ge ((v9.set v0.toNat (if (-70368744177664) > (w (v10 - v11)) then (-70368744177664) else (w (v10 - v11))))[v0.toNat]?) fun x7 =>
  F83.l1001 N n v0 v1 v2 v3 v4 v5 v6 v7 v8 (v9.set v0.toNat (if (-70368744177664) > (w (v10 - v11)) then (-70368744177664) else (w (v10 - v11)))) x7 (w (v11 * 2)) k0 k1
noncomputable def F83.l12 {β : Type} (N : Nat) : Nat → Int → (List Pl) → (List Ro) → (List Fa) → (List Do) → (List Int) → (List Int) → Int → Bool → (List Int) → Int → Int → (Int → List Pl → List Ro → List Fa → List Do → List Int → List Int → Int → Bool → List Int → Int → Int → Bool → Option β) → Option β
 | 0, _, _, _, _, _, _, _, _, _, _, _, _, _ => none
 | n + 1, v0, v1, v2, v3, v4, v5, v6, v7, v8, v9, v10, v11, k0 =>
  bl ((w (v11 + 1)) < v10) (k0 v0 v1 v2 v3 v4 v5 v6 v7 v8 v9 v10 v11 (decide ((w (v11 + 1)) < v10))) <|
  ck (0 ≤ v0) <|
  ge (v9[v0.toNat]?) fun _ =>
  ge (v9[v0.toNat]?) fun _ =>
  F41.C N v1 v2 v3 v4 v5 v6 (v9.set v0.toNat (w (v11 + (w (Int.tdiv (w (v10 - v11)) 2))))) v0 fun r3 =>
  br (r3 ≤ 0) (
   ck (0 ≤ v0) <|
   ge ((v9.set v0.toNat (w (v11 + (w (Int.tdiv (w (v10 - v11)) 2)))))[v0.toNat]?) fun _ =>
   ge ((v9.set v0.toNat (w (v11 + (w (Int.tdiv (w (v10 - v11)) 2)))))[v0.toNat]?) fun x5 =>
   F83.l12 N n v0 v1 v2 v3 v4 v5 v6 v7 v8 (v9.set v0.toNat (w (v11 + (w (Int.tdiv (w (v10 - v11)) 2))))) v10 x5 k0) <|
  ck (0 ≤ v0) <|
  ge ((v9.set v0.toNat (w (v11 + (w (Int.tdiv (w (v10 - v11)) 2)))))[v0.toNat]?) fun _ =>
  ge ((v9.set v0.toNat (w (v11 + (w (Int.tdiv (w (v10 - v11)) 2)))))[v0.toNat]?) fun x7 =>
  F83.l12 N n v0 v1 v2 v3 v4 v5 v6 v7 v8 (v9.set v0.toNat (w (v11 + (w (Int.tdiv (w (v10 - v11)) 2))))) x7 v11 k0
noncomputable def F83.K {β : Type} (N : Nat) (a0 : List Pl) (a1 : List Ro) (a2 : List Fa) (a3 : List Do) (a4 a5 a6 : List Int) (a7 : Int) (k0 : Int → Bool → Option β) : Option β :=
 ck (0 + a6.length ≤ 1000000000) <|
 F41.C N a0 a1 a2 a3 a4 a5 a6 a7 fun r1 =>
 br (r1 ≤ 0) (
  ck (0 ≤ a7) <|
  ge (a6[a7.toNat]?) fun _ =>
  ge (a6[a7.toNat]?) fun x3 =>
  k0 x3 true) <|
 ck (0 ≤ a7) <|
 ge (a6[a7.toNat]?) fun _ =>
 ge (a6[a7.toNat]?) fun x5 =>
 F83.l1001 N N a7 a0 a1 a2 a3 a4 a5 0 false a6 x5 1 (fun z8 z9 z10 z11 z12 z13 z14 z15 z16 z17 z18 _ _ =>
  ck (0 ≤ z8) <|
  ge (z17[z8.toNat]?) fun _ =>
  ge (z17[z8.toNat]?) fun x22 =>
  F83.l12 N N z8 z9 z10 z11 z12 z13 z14 z15 z16 z17 z18 x22 fun _ _ _ _ _ _ _ _ _ _ _ z34 _ =>
  k0 z34 true) fun z36 z37 =>
 k0 z36 z37
noncomputable def F83.fx : Fx := ⟨Try.prog, [], [], [(0,[2,3,4,5,8,9]),(1,[3,4,5,8,9,10]),(2,[3,4,5,8,9,10,21]),(3,[8,9]),(4,[3,4,5,8,9,10,11,12]),(5,[3,4,5,8,9,10,11,12]),(6,[3,4,5,8,9,10,11,12,42]),(7,[3,4,5,8,9,10,12,47]),(8,[8,9]),(9,[3,4,5,8,9,10,11,12]),(10,[3,4,5,8,9,10,11,12]),(11,[3,4,5,8,9,10,11,13]),(12,[3,4,5,8,9,10,11,13,61]),(13,[3,4,5,8,9,10,11,13]),(14,[3,4,5,8,9,10,11,13,76]),(15,[3,4,5,8,9,10,11,13]),(16,[3,4,5,8,9,10,11,13]),(17,[8,9])], 86, []⟩
noncomputable def F83.cs (N : Nat) : List (Ctr Try.prog) := [F41.X N]
abbrev F83.s1001 : Sh := [(6, .one .i), (8, .one (.addr 4 0)), (9, .slot false [.lst .frz 62 kd1, .lst .frz 71 kd8, .lst .frz 100 kd11, .lst .frz 55 kd13]), (10, .one (.addr 5 0)), (11, .slot false [.lst .frz 3 .i, .lst .frz 3 .i]), (16, .one .i), (18, .one .bool), (20, .one (.view 10 0)), (21, .slot true [.lst .own 3 .i]), (22, .one .i), (24, .one .i)]
abbrev F83.e1001_0 : Sh := [(6, .one .i), (8, .one (.addr 4 0)), (9, .slot false [.lst .frz 62 kd1, .lst .frz 71 kd8, .lst .frz 100 kd11, .lst .frz 55 kd13]), (10, .one (.addr 5 0)), (11, .slot false [.lst .frz 3 .i, .lst .frz 3 .i]), (16, .one .i), (18, .one .bool), (20, .one (.view 10 0)), (21, .slot true [.lst .own 3 .i]), (22, .one .i), (24, .one .i), (84, .one .bool)]
abbrev F83.e1001_1 : Sh := [(16, .one .i), (18, .one .bool)]
noncomputable def F83.X1001 (N : Nat) : LpC Try.prog F83.fx := mkL (F83.cs N) [] ((loopsOf (bodyOf Try.f83)).getD 0 .skip) 1001 [3,4,5,8,9,10,11,12] (by kernel_rfl) (by kernel_rfl) (by kernel_rfl) F83.s1001 (fun n x k => F83.l1001 N n x.1 x.2.1 x.2.2.1 x.2.2.2.1 x.2.2.2.2.1 x.2.2.2.2.2.1 x.2.2.2.2.2.2.1 x.2.2.2.2.2.2.2.1 x.2.2.2.2.2.2.2.2.1 x.2.2.2.2.2.2.2.2.2.1 x.2.2.2.2.2.2.2.2.2.2.1 x.2.2.2.2.2.2.2.2.2.2.2.1 (fun r0 r1 r2 r3 r4 r5 r6 r7 r8 r9 r10 r11 r12 => k (.exit 0) (Sh.mk F83.e1001_0 (r0, r1, r2, r3, r4, r5, r6, r7, r8, r9, r10, r11, r12, ()))) (fun r0 r1 => k (.ret) (Sh.mk F83.e1001_1 (r0, r1, ())))) (fun _ _ => rfl) (fun _ _ _ => by kernel_rfl) N
abbrev F83.s12 : Sh := [(6, .one .i), (8, .one (.addr 4 0)), (9, .slot false [.lst .frz 62 kd1, .lst .frz 71 kd8, .lst .frz 100 kd11, .lst .frz 55 kd13]), (10, .one (.addr 5 0)), (11, .slot false [.lst .frz 3 .i, .lst .frz 3 .i]), (16, .one .i), (18, .one .bool), (20, .one (.view 10 0)), (21, .slot true [.lst .own 3 .i]), (22, .one .i), (26, .one .i)]
abbrev F83.e12_0 : Sh := [(6, .one .i), (8, .one (.addr 4 0)), (9, .slot false [.lst .frz 62 kd1, .lst .frz 71 kd8, .lst .frz 100 kd11, .lst .frz 55 kd13]), (10, .one (.addr 5 0)), (11, .slot false [.lst .frz 3 .i, .lst .frz 3 .i]), (16, .one .i), (18, .one .bool), (20, .one (.view 10 0)), (21, .slot true [.lst .own 3 .i]), (22, .one .i), (26, .one .i), (122, .one .bool)]
noncomputable def F83.X12 (N : Nat) : LpC Try.prog F83.fx := mkL (F83.cs N) [] ((loopsOf (bodyOf Try.f83)).getD 1 .skip) 12 [3,4,5,8,9,10,11,13] (by kernel_rfl) (by kernel_rfl) (by kernel_rfl) F83.s12 (fun n x k => F83.l12 N n x.1 x.2.1 x.2.2.1 x.2.2.2.1 x.2.2.2.2.1 x.2.2.2.2.2.1 x.2.2.2.2.2.2.1 x.2.2.2.2.2.2.2.1 x.2.2.2.2.2.2.2.2.1 x.2.2.2.2.2.2.2.2.2.1 x.2.2.2.2.2.2.2.2.2.2.1 x.2.2.2.2.2.2.2.2.2.2.2.1 (fun r0 r1 r2 r3 r4 r5 r6 r7 r8 r9 r10 r11 r12 => k (.exit 2) (Sh.mk F83.e12_0 (r0, r1, r2, r3, r4, r5, r6, r7, r8, r9, r10, r11, r12, ())))) (fun _ _ => rfl) (fun _ _ _ => by kernel_rfl) N
noncomputable def F83.C {β : Type} (N : Nat) := (Sealed fun β => @F83.K β).1 β N
theorem F83.C_eq {β : Type} (N : Nat) : @F83.C β N = @F83.K β N := congrFun (congrFun (Sealed fun β => @F83.K β).2 β) N
noncomputable def F83.X (N : Nat) : Ctr Try.prog := mkF 83 Try.f83 F83.fx (F83.cs N) [F83.X1001 N, F83.X12 N] F83.i (fun x k => F83.C N x.1 x.2.1 x.2.2.1 x.2.2.2.1 x.2.2.2.2.1 x.2.2.2.2.2.1 x.2.2.2.2.2.2.1 x.2.2.2.2.2.2.2.1 (fun r0 r1 => k (Sh.mk F83.o0 (r0, r1, ())))) (by intros; rw [F83.C_eq]; kernel_rfl) (by kernel_rfl) (by kernel_rfl) (by kernel_rfl) (by kernel_rfl) rfl (by kernel_rfl) rfl (by kernel_rfl) (by kernel_rfl) (by kernel_rfl) (.dead _ 83) rfl
end Go.Vi.B
/- What Up and Down of the document's relaxation answer lies in the range. -/
namespace Go.Vi.B
open Go.Proofs Go.Vi.A
set_option linter.unusedVariables false
variable {N : Nat} (hN : 1000 ≤ N) {β : Type}
theorem PrOk.set {pl : List Pl} {ps : List Int} (h : PrOk pl ps) (i : Nat) {x : Int} (h0 : -70368744177664 ≤ x) (h1 : x ≤ 70368744177664) : PrOk pl (ps.set i x) :=
  ⟨by rw [List.length_set]; exact h.len, fun y hy => by
    rcases List.mem_or_eq_of_mem_set hy with g | g
    · exact h.rng y g
    · subst g; exact ⟨h0, h1⟩⟩
theorem PrOk.set_get {pl : List Pl} {ps : List Int} (h : PrOk pl ps) {p : Int} (p0 : 0 ≤ p) (p1 : p < (pl.length : Int)) (x : Int) : (ps.set p.toNat x)[p.toNat]? = some x :=
  List.getElem?_set_self (by have := h.len; omega)
theorem pow48 : (2 : Int) ^ 48 = 281474976710656 := by decide
theorem pow_pos2 (j : Nat) : (1 : Int) ≤ 2 ^ j := by
  induction j with
  | zero => decide
  | succ j ih => rw [Int.pow_succ]; omega
include hN in
theorem up_dbl {pl : List Pl} {ro : List Ro} {fa : List Fa} {dr : List Do} {sf sd : List Int} (h : AirOk pl ro fa dr) (hs : SetOk fa dr sf sd) {p : Int} (p0 : 0 ≤ p) (p1 : p < (pl.length : Int)) :
    ∀ (m j n : Nat) (ps : List Int) (b : Int), m + j = 48 → m < n → PrOk pl ps → -70368744177664 ≤ b → b ≤ 70368744177664 → -70368744177664 + 2 ^ j - 1 ≤ b →
    (∃ (ps' : List Int) (b' y s' : Int), PrOk pl ps' ∧ ps'[p.toNat]? = some y ∧ -70368744177664 ≤ b' ∧ b' ≤ y ∧ y ≤ 70368744177664 ∧ ∀ (K0 : Int → List Pl → List Ro → List Fa → List Do → List Int → List Int → Int → Bool → List Int → Int → Int → Bool → Option β) (K1 : Int → Bool → Option β), F82.l1001 N n p pl ro fa dr sf sd 0 false ps b (2 ^ j) K0 K1 = K0 p pl ro fa dr sf sd 0 false ps' b' s' true) ∨
    ∀ (K0 : Int → List Pl → List Ro → List Fa → List Do → List Int → List Int → Int → Bool → List Int → Int → Int → Bool → Option β) (K1 : Int → Bool → Option β), F82.l1001 N n p pl ro fa dr sf sd 0 false ps b (2 ^ j) K0 K1 = K1 0 false
  | 0, j, n, ps, b, hj, hn, hp, b0, b1, hb => by
    have : j = 48 := by omega
    subst this
    rw [pow48] at hb; omega
  | m + 1, j, 0, ps, b, hj, hn, hp, b0, b1, hb => by omega
  | m + 1, j, n + 1, ps, b, hj, hn, hp, b0, b1, hb => by
    have hq := pow_pos2 j
    have ih := up_dbl h hs p0 p1 m (j + 1) n
    rw [Int.pow_succ] at ih
    generalize (2 : Int) ^ j = q at *
    obtain ⟨z, hz, _⟩ := hp.get p0 p1
    have hy : -70368744177664 ≤ (if (70368744177664 : Int) < b + q then 70368744177664 else b + q) ∧ (if (70368744177664 : Int) < b + q then 70368744177664 else b + q) ≤ 70368744177664 := by split <;> omega
    have hp' := hp.set p.toNat hy.1 hy.2
    have hg := hp.set_get p0 p1 (if (70368744177664 : Int) < b + q then 70368744177664 else b + q)
    have ew : w (b + q) = b + q := w_id (by omega) (by omega)
    have eq2 : w (q * 2) = q * 2 := w_id (by omega) (by omega)
    have el := fun k => ref10_Lowest (β := β) hN h hs hp' p k
    by_cases c : lowP (dr.zip sd) (fa.zip sf) ro (ps.set p.toNat (if (70368744177664 : Int) < b + q then 70368744177664 else b + q)) p ≥ 0
    · left
      refine ⟨_, b, _, q, hp', hg, b0, by split <;> omega, hy.2, fun K0 K1 => ?_⟩
      simp only [F82.l1001, res, ew, el, hz, ge_some, p0, if_true, c, decide_true]
    · by_cases e : (if (70368744177664 : Int) < b + q then 70368744177664 else b + q) = 70368744177664
      · right
        intro K0 K1
        simp only [F82.l1001, res, ew, el, hz, ge_some, p0, if_true, hg]
        rw [if_neg c, if_pos e]
      · have e' : (if (70368744177664 : Int) < b + q then 70368744177664 else b + q) = b + q := by
          split
          · rename_i g; rw [if_pos g] at e; exact absurd rfl e
          · rfl
        rcases ih _ (b + q) (by omega) (by omega) hp' (by rw [← e']; exact hy.1) (by rw [← e']; exact hy.2) (by omega) with ⟨ps', b', y, s', g1, g2, g3, g4, g5, g6⟩ | g
        · left
          refine ⟨ps', b', y, s', g1, g2, g3, g4, g5, fun K0 K1 => ?_⟩
          rw [← g6 K0 K1]
          simp only [F82.l1001, res, ew, el, hz, ge_some, p0, if_true, hg, eq2]
          rw [if_neg c, if_neg e, e']
        · right
          intro K0 K1
          rw [← g K0 K1]
          simp only [F82.l1001, res, ew, el, hz, ge_some, p0, if_true, hg, eq2]
          rw [if_neg c, if_neg e, e']
include hN in
theorem up_bis {pl : List Pl} {ro : List Ro} {fa : List Fa} {dr : List Do} {sf sd : List Int} (h : AirOk pl ro fa dr) (hs : SetOk fa dr sf sd) {p : Int} (p0 : 0 ≤ p) (p1 : p < (pl.length : Int)) :
    ∀ (m n : Nat) (ps : List Int) (a b : Int), m < n → PrOk pl ps → -70368744177664 ≤ a → a ≤ b → b ≤ 70368744177664 → b - a ≤ 2 ^ m →
    ∃ (ps' : List Int) (a' b' : Int), -70368744177664 ≤ b' ∧ b' ≤ 70368744177664 ∧ ∀ (K0 : Int → List Pl → List Ro → List Fa → List Do → List Int → List Int → Int → Bool → List Int → Int → Int → Bool → Option β), F82.l12 N n p pl ro fa dr sf sd 0 false ps a b K0 = K0 p pl ro fa dr sf sd 0 false ps' a' b' false
  | m, 0, ps, a, b, hn, hp, h0, h1, h2, hd => by omega
  | m, n + 1, ps, a, b, hn, hp, h0, h1, h2, hd => by
    have ew : w (a + 1) = a + 1 := w_id (by omega) (by omega)
    by_cases c : a + 1 < b
    · cases m with
      | zero => simp at hd; omega
      | succ m =>
        rw [Int.pow_succ] at hd
        have ih := up_bis h hs p0 p1 m n
        generalize (2 : Int) ^ m = q at *
        obtain ⟨z, hz, _⟩ := hp.get p0 p1
        have e1 : w (b - a) = b - a := w_id (by omega) (by omega)
        have e2 : Int.tdiv (b - a) 2 = (b - a) / 2 := Int.tdiv_eq_ediv_of_nonneg (by omega)
        have e3 : w ((b - a) / 2) = (b - a) / 2 := w_id (by omega) (by omega)
        have e4 : w (a + (b - a) / 2) = (a + (b - a) / 2) := w_id (by omega) (by omega)
        have hp' := hp.set p.toNat (x := (a + (b - a) / 2)) (by omega) (by omega)
        have hg := hp.set_get p0 p1 (a + (b - a) / 2)
        have el := fun k => ref10_Lowest (β := β) hN h hs hp' p k
        by_cases d : lowP (dr.zip sd) (fa.zip sf) ro (ps.set p.toNat (a + (b - a) / 2)) p ≥ 0
        · obtain ⟨ps', a', b', g1, g2, g3⟩ := ih _ a (a + (b - a) / 2) (by omega) hp' (by omega) (by omega) (by omega) (by omega)
          refine ⟨ps', a', b', g1, g2, fun K0 => ?_⟩
          rw [← g3 K0]
          simp only [F82.l12, res, ew, c, e1, e2, e3, e4, el, hz, ge_some, p0, if_true, hg]
          rw [if_pos d]
        · obtain ⟨ps', a', b', g1, g2, g3⟩ := ih _ (a + (b - a) / 2) b (by omega) hp' (by omega) (by omega) (by omega) (by omega)
          refine ⟨ps', a', b', g1, g2, fun K0 => ?_⟩
          rw [← g3 K0]
          simp only [F82.l12, res, ew, c, e1, e2, e3, e4, el, hz, ge_some, p0, if_true, hg]
          rw [if_neg d]
    · refine ⟨ps, a, b, by omega, by omega, fun K0 => ?_⟩
      simp only [F82.l12, res, ew, c, decide_false]
include hN in
theorem ref10_Up {pl : List Pl} {ro : List Ro} {fa : List Fa} {dr : List Do} {sf sd : List Int} (h : AirOk pl ro fa dr) (hs : SetOk fa dr sf sd) {p : Int} (p0 : 0 ≤ p) (p1 : p < (pl.length : Int)) {ps : List Int} (hp : PrOk pl ps) :
    ∃ (x : Int) (ok : Bool), -70368744177664 ≤ x ∧ x ≤ 70368744177664 ∧ ∀ k : Int → Bool → Option β, F82.C N pl ro fa dr sf sd ps p k = k x ok := by
  have hn := h.npl
  have hl := hp.len
  obtain ⟨z, hz, z0, z1⟩ := hp.get p0 p1
  have el := fun k => ref10_Lowest (β := β) hN h hs hp p k
  by_cases c : lowP (dr.zip sd) (fa.zip sf) ro ps p ≥ 0
  · refine ⟨z, true, z0, z1, fun k => ?_⟩
    rw [F82.C_eq]; unfold F82.K
    simp only [res, el, hz, ge_some, p0, if_true]
    rw [if_pos (by omega), if_pos c]
  · rcases up_dbl (β := β) hN h hs p0 p1 48 0 N ps z (by omega) (by omega) hp z0 z1 (by simp; omega) with ⟨ps', b', y, s', g1, g2, g3, g4, g5, g6⟩ | g
    · obtain ⟨ps2, a2, b2, i1, i2, i3⟩ := up_bis (β := β) hN h hs p0 p1 48 N ps' b' y (by omega) g1 (by omega) (by omega) (by omega) (by rw [pow48]; omega)
      refine ⟨b2, true, i1, i2, fun k => ?_⟩
      rw [F82.C_eq]; unfold F82.K
      simp only [Int.pow_zero] at g6
      simp only [res, el, hz, ge_some, p0, if_true, g6, g2, i3]
      rw [if_pos (by omega), if_neg c]
    · refine ⟨0, false, by omega, by omega, fun k => ?_⟩
      rw [F82.C_eq]; unfold F82.K
      simp only [Int.pow_zero] at g
      simp only [res, el, hz, ge_some, p0, if_true, g]
      rw [if_pos (by omega), if_neg c]
include hN in
theorem down_dbl {pl : List Pl} {ro : List Ro} {fa : List Fa} {dr : List Do} {sf sd : List Int} (h : AirOk pl ro fa dr) (hs : SetOk fa dr sf sd) {p : Int} (p0 : 0 ≤ p) (p1 : p < (pl.length : Int)) :
    ∀ (m j n : Nat) (ps : List Int) (b : Int), m + j = 48 → m < n → PrOk pl ps → -70368744177664 ≤ b → b ≤ 70368744177664 → b ≤ 70368744177664 - 2 ^ j + 1 →
    (∃ (ps' : List Int) (b' y s' : Int), PrOk pl ps' ∧ ps'[p.toNat]? = some y ∧ -70368744177664 ≤ y ∧ y ≤ b' ∧ b' ≤ 70368744177664 ∧ ∀ (K0 : Int → List Pl → List Ro → List Fa → List Do → List Int → List Int → Int → Bool → List Int → Int → Int → Bool → Option β) (K1 : Int → Bool → Option β), F83.l1001 N n p pl ro fa dr sf sd 0 false ps b (2 ^ j) K0 K1 = K0 p pl ro fa dr sf sd 0 false ps' b' s' true) ∨
    ∀ (K0 : Int → List Pl → List Ro → List Fa → List Do → List Int → List Int → Int → Bool → List Int → Int → Int → Bool → Option β) (K1 : Int → Bool → Option β), F83.l1001 N n p pl ro fa dr sf sd 0 false ps b (2 ^ j) K0 K1 = K1 0 false
  | 0, j, n, ps, b, hj, hn, hp, b0, b1, hb => by
    have : j = 48 := by omega
    subst this
    rw [pow48] at hb; omega
  | m + 1, j, 0, ps, b, hj, hn, hp, b0, b1, hb => by omega
  | m + 1, j, n + 1, ps, b, hj, hn, hp, b0, b1, hb => by
    have hq := pow_pos2 j
    have ih := down_dbl h hs p0 p1 m (j + 1) n
    rw [Int.pow_succ] at ih
    generalize (2 : Int) ^ j = q at *
    obtain ⟨z, hz, _⟩ := hp.get p0 p1
    have hy : -70368744177664 ≤ (if (-70368744177664 : Int) > b - q then -70368744177664 else b - q) ∧ (if (-70368744177664 : Int) > b - q then -70368744177664 else b - q) ≤ 70368744177664 := by split <;> omega
    have hp' := hp.set p.toNat hy.1 hy.2
    have hg := hp.set_get p0 p1 (if (-70368744177664 : Int) > b - q then -70368744177664 else b - q)
    have ew : w (b - q) = b - q := w_id (by omega) (by omega)
    have eq2 : w (q * 2) = q * 2 := w_id (by omega) (by omega)
    have el := fun k => ref10_Highest (β := β) hN h hs hp' p k
    by_cases c : highP (dr.zip sd) (fa.zip sf) ro (ps.set p.toNat (if (-70368744177664 : Int) > b - q then -70368744177664 else b - q)) p ≤ 0
    · left
      refine ⟨_, b, _, q, hp', hg, hy.1, by split <;> omega, b1, fun K0 K1 => ?_⟩
      simp only [F83.l1001, res, ew, el, hz, ge_some, p0, if_true, c, decide_true]
    · by_cases e : (if (-70368744177664 : Int) > b - q then -70368744177664 else b - q) = (-70368744177664)
      · right
        intro K0 K1
        simp only [F83.l1001, res, ew, el, hz, ge_some, p0, if_true, hg]
        rw [if_neg c, if_pos e]
      · have e' : (if (-70368744177664 : Int) > b - q then -70368744177664 else b - q) = b - q := by
          split
          · rename_i g; rw [if_pos g] at e; exact absurd rfl e
          · rfl
        rcases ih _ (b - q) (by omega) (by omega) hp' (by rw [← e']; exact hy.1) (by rw [← e']; exact hy.2) (by omega) with ⟨ps', b', y, s', g1, g2, g3, g4, g5, g6⟩ | g
        · left
          refine ⟨ps', b', y, s', g1, g2, g3, g4, g5, fun K0 K1 => ?_⟩
          rw [← g6 K0 K1]
          simp only [F83.l1001, res, ew, el, hz, ge_some, p0, if_true, hg, eq2]
          rw [if_neg c, if_neg e, e']
        · right
          intro K0 K1
          rw [← g K0 K1]
          simp only [F83.l1001, res, ew, el, hz, ge_some, p0, if_true, hg, eq2]
          rw [if_neg c, if_neg e, e']
include hN in
theorem down_bis {pl : List Pl} {ro : List Ro} {fa : List Fa} {dr : List Do} {sf sd : List Int} (h : AirOk pl ro fa dr) (hs : SetOk fa dr sf sd) {p : Int} (p0 : 0 ≤ p) (p1 : p < (pl.length : Int)) :
    ∀ (m n : Nat) (ps : List Int) (a b : Int), m < n → PrOk pl ps → -70368744177664 ≤ b → b ≤ a → a ≤ 70368744177664 → a - b ≤ 2 ^ m →
    ∃ (ps' : List Int) (a' b' : Int), -70368744177664 ≤ b' ∧ b' ≤ 70368744177664 ∧ ∀ (K0 : Int → List Pl → List Ro → List Fa → List Do → List Int → List Int → Int → Bool → List Int → Int → Int → Bool → Option β), F83.l12 N n p pl ro fa dr sf sd 0 false ps a b K0 = K0 p pl ro fa dr sf sd 0 false ps' a' b' false
  | m, 0, ps, a, b, hn, hp, h0, h1, h2, hd => by omega
  | m, n + 1, ps, a, b, hn, hp, h0, h1, h2, hd => by
    have ew : w (b + 1) = b + 1 := w_id (by omega) (by omega)
    by_cases c : b + 1 < a
    · cases m with
      | zero => simp at hd; omega
      | succ m =>
        rw [Int.pow_succ] at hd
        have ih := down_bis h hs p0 p1 m n
        generalize (2 : Int) ^ m = q at *
        obtain ⟨z, hz, _⟩ := hp.get p0 p1
        have e1 : w (a - b) = a - b := w_id (by omega) (by omega)
        have e2 : Int.tdiv (a - b) 2 = (a - b) / 2 := Int.tdiv_eq_ediv_of_nonneg (by omega)
        have e3 : w ((a - b) / 2) = (a - b) / 2 := w_id (by omega) (by omega)
        have e4 : w (b + (a - b) / 2) = (b + (a - b) / 2) := w_id (by omega) (by omega)
        have hp' := hp.set p.toNat (x := (b + (a - b) / 2)) (by omega) (by omega)
        have hg := hp.set_get p0 p1 (b + (a - b) / 2)
        have el := fun k => ref10_Highest (β := β) hN h hs hp' p k
        by_cases d : highP (dr.zip sd) (fa.zip sf) ro (ps.set p.toNat (b + (a - b) / 2)) p ≤ 0
        · obtain ⟨ps', a', b', g1, g2, g3⟩ := ih _ a (b + (a - b) / 2) (by omega) hp' (by omega) (by omega) (by omega) (by omega)
          refine ⟨ps', a', b', g1, g2, fun K0 => ?_⟩
          rw [← g3 K0]
          simp only [F83.l12, res, ew, c, e1, e2, e3, e4, el, hz, ge_some, p0, if_true, hg]
          rw [if_pos d]
        · obtain ⟨ps', a', b', g1, g2, g3⟩ := ih _ (b + (a - b) / 2) b (by omega) hp' (by omega) (by omega) (by omega) (by omega)
          refine ⟨ps', a', b', g1, g2, fun K0 => ?_⟩
          rw [← g3 K0]
          simp only [F83.l12, res, ew, c, e1, e2, e3, e4, el, hz, ge_some, p0, if_true, hg]
          rw [if_neg d]
    · refine ⟨ps, a, b, by omega, by omega, fun K0 => ?_⟩
      simp only [F83.l12, res, ew, c, decide_false]
include hN in
theorem ref10_Down {pl : List Pl} {ro : List Ro} {fa : List Fa} {dr : List Do} {sf sd : List Int} (h : AirOk pl ro fa dr) (hs : SetOk fa dr sf sd) {p : Int} (p0 : 0 ≤ p) (p1 : p < (pl.length : Int)) {ps : List Int} (hp : PrOk pl ps) :
    ∃ (x : Int) (ok : Bool), -70368744177664 ≤ x ∧ x ≤ 70368744177664 ∧ ∀ k : Int → Bool → Option β, F83.C N pl ro fa dr sf sd ps p k = k x ok := by
  have hn := h.npl
  have hl := hp.len
  obtain ⟨z, hz, z0, z1⟩ := hp.get p0 p1
  have el := fun k => ref10_Highest (β := β) hN h hs hp p k
  by_cases c : highP (dr.zip sd) (fa.zip sf) ro ps p ≤ 0
  · refine ⟨z, true, z0, z1, fun k => ?_⟩
    rw [F83.C_eq]; unfold F83.K
    simp only [res, el, hz, ge_some, p0, if_true]
    rw [if_pos (by omega), if_pos c]
  · rcases down_dbl (β := β) hN h hs p0 p1 48 0 N ps z (by omega) (by omega) hp z0 z1 (by simp; omega) with ⟨ps', b', y, s', g1, g2, g3, g4, g5, g6⟩ | g
    · obtain ⟨ps2, a2, b2, i1, i2, i3⟩ := down_bis (β := β) hN h hs p0 p1 48 N ps' b' y (by omega) g1 (by omega) (by omega) (by omega) (by rw [pow48]; omega)
      refine ⟨b2, true, i1, i2, fun k => ?_⟩
      rw [F83.C_eq]; unfold F83.K
      simp only [Int.pow_zero] at g6
      simp only [res, el, hz, ge_some, p0, if_true, g6, g2, i3]
      rw [if_pos (by omega), if_neg c]
    · refine ⟨0, false, by omega, by omega, fun k => ?_⟩
      rw [F83.C_eq]; unfold F83.K
      simp only [Int.pow_zero] at g
      simp only [res, el, hz, ge_some, p0, if_true, g]
      rw [if_pos (by omega), if_neg c]
end Go.Vi.B
/- minecontrol/minecontrolref12.check -/
namespace Go.Vi.B
open Go.Proofs
set_option linter.unusedVariables false
set_option maxRecDepth 100000
abbrev F81.i : Sh := [(0, .agg [.lst .frz 62 kd1, .lst .frz 71 kd8, .lst .frz 100 kd11, .lst .frz 55 kd13]), (2, .agg [.lst .frz 3 .i, .lst .frz 3 .i]), (4, .one (.lst .frz 3 .i))]
abbrev F81.o0 : Sh := [(0, .one .i)]
noncomputable def F81.l12 {β : Type} (N : Nat) : Nat → (List Int) → Int → (List Bool) → Int → (Int → Option β) → (List Int → Int → List Bool → Int → Bool → Option β) → Option β
 | 0, _, _, _, _, _, _ => none
 | n + 1, v0, v1, v2, v3, k0, k1 =>
  bl (v3 < (v0.length : Int)) (k1 v0 v1 v2 v3 (decide (v3 < (v0.length : Int)))) <|
  ck (0 ≤ v3) <|
  ge (v2[v3.toNat]?) fun _ =>
  ge (v2[v3.toNat]?) fun x2 =>
  bl x2 (F81.l12 N n v0 v1 v2 (w (v3 + 1)) k0 k1) <|
  ck (0 ≤ v3) <|
  ge (v0[v3.toNat]?) fun x3 =>
  br (x3 != 0) (k0 12) <|
  F81.l12 N n v0 v1 v2 (w (v3 + 1)) k0 k1
noncomputable def F81.K {β : Type} (N : Nat) (a0 : List Pl) (a1 : List Ro) (a2 : List Fa) (a3 : List Do) (a4 a5 a6 : List Int) (k0 : Int → Option β) : Option β :=
 F36.C N a0 a1 a2 a3 fun r1 =>
 br (r1 != 0) (k0 r1) <|
 F37.C N a0 a1 a2 a3 a4 a5 fun r2 =>
 br (!r2) (k0 21) <|
 br ((a6.length : Int) != (a0.length : Int)) (k0 11) <|
 F38.C N a6 fun r3 =>
 br (!r3) (k0 1) <|
 F39.C N a0 a1 fun r4 =>
 F81.l12 N N a6 0 r4 0 (fun z5 => k0 z5) fun _ _ _ _ _ =>
 k0 0
noncomputable def F81.fx : Fx := ⟨Try.prog, [], [], [(0,[2,3,4,6]),(1,[2,3,4,6,7]),(2,[2,3,4,6,7,13]),(3,[6]),(4,[2,3,6,18]),(5,[6]),(6,[2,3,6,25]),(7,[6]),(8,[2,3,6,28]),(9,[6]),(10,[2,6,8]),(11,[2,6,8,9]),(12,[2,6,8,9,35]),(13,[2,6,8,9]),(14,[2,6,8,9,48]),(15,[6]),(16,[6])], 49, []⟩
noncomputable def F81.cs (N : Nat) : List (Ctr Try.prog) := [F36.X N, F37.X N, F38.X N, F39.X N]
abbrev F81.s12 : Sh := [(4, .one (.lst .frz 3 .i)), (12, .one .i), (16, .one (.view 8 0)), (17, .slot true [.lst .own 4 .bool]), (18, .one .i)]
abbrev F81.e12_0 : Sh := [(12, .one .i)]
abbrev F81.e12_1 : Sh := [(4, .one (.lst .frz 3 .i)), (12, .one .i), (16, .one (.view 8 0)), (17, .slot true [.lst .own 4 .bool]), (18, .one .i), (70, .one .bool)]
noncomputable def F81.X12 (N : Nat) : LpC Try.prog F81.fx := mkL (F81.cs N) [] ((loopsOf (bodyOf Try.f81)).getD 0 .skip) 12 [2,6,8,9] (by kernel_rfl) (by kernel_rfl) (by kernel_rfl) F81.s12 (fun n x k => F81.l12 N n x.1 x.2.1 x.2.2.1 x.2.2.2.1 (fun r0 => k (.ret) (Sh.mk F81.e12_0 (r0, ()))) (fun r0 r1 r2 r3 r4 => k (.exit 0) (Sh.mk F81.e12_1 (r0, r1, r2, r3, r4, ())))) (fun _ _ => rfl) (fun _ _ _ => by kernel_rfl) N
noncomputable def F81.C {β : Type} (N : Nat) := (Sealed fun β => @F81.K β).1 β N
theorem F81.C_eq {β : Type} (N : Nat) : @F81.C β N = @F81.K β N := congrFun (congrFun (Sealed fun β => @F81.K β).2 β) N
noncomputable def F81.X (N : Nat) : Ctr Try.prog := mkF 81 Try.f81 F81.fx (F81.cs N) [F81.X12 N] F81.i (fun x k => F81.C N x.1 x.2.1 x.2.2.1 x.2.2.2.1 x.2.2.2.2.1 x.2.2.2.2.2.1 x.2.2.2.2.2.2.1 (fun r0 => k (Sh.mk F81.o0 (r0, ())))) (by intros; rw [F81.C_eq]; kernel_rfl) (by kernel_rfl) (by kernel_rfl) (by kernel_rfl) (by kernel_rfl) rfl (by kernel_rfl) rfl (by kernel_rfl) (by kernel_rfl) (by kernel_rfl) (.dead _ 81) rfl
end Go.Vi.B
/- minecontrol/minecontrolref12.relax -/
namespace Go.Vi.B
open Go.Proofs
set_option linter.unusedVariables false
set_option maxRecDepth 100000
abbrev F77.i : Sh := [(0, .agg [.lst .frz 62 kd1, .lst .frz 71 kd8, .lst .frz 100 kd11, .lst .frz 55 kd13]), (2, .agg [.lst .frz 3 .i, .lst .frz 3 .i]), (4, .one (.lst .frz 3 .i)), (6, .one .bool)]
abbrev F77.o0 : Sh := [(0, .tup [(false, [.view 0 0]), (false, [.i])]), (1, .slot true [.lst .own 3 .i, .undef])]
noncomputable def F77.l11 {β : Type} (N : Nat) : Nat → Bool → (List Pl) → (List Ro) → (List Fa) → (List Do) → (List Int) → (List Int) → (List Int) → Int → (List Int) → (List Bool) → Int → Bool → Int → (List Int → Int → Option β) → (Bool → List Pl → List Ro → List Fa → List Do → List Int → List Int → List Int → Int → List Int → List Bool → Int → Bool → Int → Bool → Option β) → Option β
 | 0, _, _, _, _, _, _, _, _, _, _, _, _, _, _, _, _ => none
 | n + 1, v0, v1, v2, v3, v4, v5, v6, v7, v8, v9, v10, v11, v12, v13, k0, k1 =>
  bl (v13 < (v9.length : Int)) (k1 v0 v1 v2 v3 v4 v5 v6 v7 v8 v9 v10 v11 v12 v13 (decide (v13 < (v9.length : Int)))) <|
  ck (0 ≤ v13) <|
  ge (v10[v13.toNat]?) fun _ =>
  ge (v10[v13.toNat]?) fun x2 =>
  br x2 (F77.l11 N n v0 v1 v2 v3 v4 v5 v6 v7 v8 v9 v10 v11 v12 (w (v13 + 1)) k0 k1) <|
  br v0 (
   F82.C N v1 v2 v3 v4 v5 v6 v9 v13 fun r3 r4 =>
   br (!r4) (k0 [] 2) <|
   br v12 (
    ck (0 ≤ v13) <|
    ge (v9[v13.toNat]?) fun _ =>
    ge (v9[v13.toNat]?) fun _ =>
    F77.l11 N n v0 v1 v2 v3 v4 v5 v6 v7 v8 (v9.set v13.toNat r3) v10 v11 true (w (v13 + 1)) k0 k1) <|
   ck (0 ≤ v13) <|
   ge (v9[v13.toNat]?) fun _ =>
   ge (v9[v13.toNat]?) fun x8 =>
   ck (0 ≤ v13) <|
   ge (v9[v13.toNat]?) fun _ =>
   ge (v9[v13.toNat]?) fun _ =>
   F77.l11 N n v0 v1 v2 v3 v4 v5 v6 v7 v8 (v9.set v13.toNat r3) v10 v11 (r3 != x8) (w (v13 + 1)) k0 k1) <|
  F83.C N v1 v2 v3 v4 v5 v6 v9 v13 fun r11 r12 =>
  br (!r12) (k0 [] 2) <|
  br v12 (
   ck (0 ≤ v13) <|
   ge (v9[v13.toNat]?) fun _ =>
   ge (v9[v13.toNat]?) fun _ =>
   F77.l11 N n v0 v1 v2 v3 v4 v5 v6 v7 v8 (v9.set v13.toNat r11) v10 v11 true (w (v13 + 1)) k0 k1) <|
  ck (0 ≤ v13) <|
  ge (v9[v13.toNat]?) fun _ =>
  ge (v9[v13.toNat]?) fun x16 =>
  ck (0 ≤ v13) <|
  ge (v9[v13.toNat]?) fun _ =>
  ge (v9[v13.toNat]?) fun _ =>
  F77.l11 N n v0 v1 v2 v3 v4 v5 v6 v7 v8 (v9.set v13.toNat r11) v10 v11 (r11 != x16) (w (v13 + 1)) k0 k1
noncomputable def F77.l7 {β : Type} (N : Nat) : Nat → Bool → (List Pl) → (List Ro) → (List Fa) → (List Do) → (List Int) → (List Int) → (List Int) → Int → (List Int) → (List Bool) → Int → (List Int → Int → Option β) → (Int → List Int → Option β) → (Bool → List Pl → List Ro → List Fa → List Do → List Int → List Int → List Int → Int → List Int → List Bool → Int → Bool → Option β) → Option β
 | 0, _, _, _, _, _, _, _, _, _, _, _, _, _, _, _ => none
 | n + 1, v0, v1, v2, v3, v4, v5, v6, v7, v8, v9, v10, v11, k0, k1, k2 =>
  bl (v11 < 200) (k2 v0 v1 v2 v3 v4 v5 v6 v7 v8 v9 v10 v11 (decide (v11 < 200))) <|
  F77.l11 N N v0 v1 v2 v3 v4 v5 v6 v7 v8 v9 v10 v11 false 0 (fun z19 z20 => k0 z19 z20) fun z21 z22 z23 z24 z25 z26 z27 z28 z29 z30 z31 z32 z33 _ _ =>
  br (!z33) (k1 0 z30) <|
  F77.l7 N n z21 z22 z23 z24 z25 z26 z27 z28 z29 z30 z31 (w (z32 + 1)) k0 k1 k2
noncomputable def F77.K {β : Type} (N : Nat) (a0 : List Pl) (a1 : List Ro) (a2 : List Fa) (a3 : List Do) (a4 a5 a6 : List Int) (a7 : Bool) (k0 : Int → List Int → Option β) : Option β :=
 F81.C N a0 a1 a2 a3 a4 a5 a6 fun r1 =>
 br (r1 != 0) (k0 r1 []) <|
 ck (0 + a6.length ≤ 1000000000) <|
 F39.C N a0 a1 fun r2 =>
 F77.l7 N N a7 a0 a1 a2 a3 a4 a5 [] 0 a6 r2 0 (fun z36 z37 => k0 z37 z36) (fun z38 z39 => k0 z38 z39) fun _ _ _ _ _ _ _ _ _ _ _ _ _ =>
 k0 2 []
noncomputable def F77.fx : Fx := ⟨Try.prog, [], [], [(0,[2,3,4,5,8,9]),(1,[2,3,4,5,8,9,10]),(2,[2,3,4,5,8,9,10,23]),(3,[8,9]),(4,[3,4,5,8,9,11]),(5,[3,4,5,8,9,11,12]),(6,[3,4,5,8,9,11,12,13]),(7,[3,4,5,8,9,11,12,13,31]),(8,[3,4,5,8,9,11,12,13]),(9,[3,4,5,8,9,11,12,13,14]),(10,[3,4,5,8,9,11,12,13,14,15]),(11,[3,4,5,8,9,11,12,13,14,15,37]),(12,[3,4,5,8,9,11,12,13,14,15]),(13,[3,4,5,8,9,11,12,13,14,15,43]),(14,[3,4,5,8,9,11,12,13,14,15]),(15,[3,4,5,8,9,11,12,13,14,15,44]),(16,[3,4,5,8,9,11,12,13,14,15,16,17]),(17,[3,4,5,8,9,11,12,13,14,15,16,17]),(18,[3,4,5,8,9,11,12,13,14,15,16,62]),(19,[8,9]),(20,[3,4,5,8,9,11,12,13,14,15,16]),(21,[3,4,5,8,9,11,12,13,14,15]),(22,[3,4,5,8,9,11,12,13,77]),(23,[8,9]),(24,[8,9])], 79, []⟩
noncomputable def F77.cs (N : Nat) : List (Ctr Try.prog) := [F81.X N, F39.X N, F82.X N, F83.X N]
abbrev F77.s11 : Sh := [(6, .one .bool), (8, .one (.addr 4 0)), (9, .slot false [.lst .frz 62 kd1, .lst .frz 71 kd8, .lst .frz 100 kd11, .lst .frz 55 kd13]), (10, .one (.addr 5 0)), (11, .slot false [.lst .frz 3 .i, .lst .frz 3 .i]), (16, .one (.view 8 0)), (17, .slot true [.lst .own 3 .i]), (18, .one .i), (22, .one (.view 11 0)), (23, .slot true [.lst .own 3 .i]), (24, .one (.view 12 0)), (25, .slot true [.lst .own 4 .bool]), (26, .one .i), (28, .one .bool), (30, .one .i)]
abbrev F77.e11_0 : Sh := [(16, .one (.view 8 0)), (17, .slot true [.lst .own 3 .i]), (18, .one .i)]
abbrev F77.e11_1 : Sh := [(6, .one .bool), (8, .one (.addr 4 0)), (9, .slot false [.lst .frz 62 kd1, .lst .frz 71 kd8, .lst .frz 100 kd11, .lst .frz 55 kd13]), (10, .one (.addr 5 0)), (11, .slot false [.lst .frz 3 .i, .lst .frz 3 .i]), (16, .one (.view 8 0)), (17, .slot true [.lst .own 3 .i]), (18, .one .i), (22, .one (.view 11 0)), (23, .slot true [.lst .own 3 .i]), (24, .one (.view 12 0)), (25, .slot true [.lst .own 4 .bool]), (26, .one .i), (28, .one .bool), (30, .one .i), (74, .one .bool)]
noncomputable def F77.X11 (N : Nat) : LpC Try.prog F77.fx := mkL (F77.cs N) [] ((loopsOf ((loopsOf (bodyOf Try.f77)).getD 0 .skip)).getD 0 .skip) 11 [3,4,5,8,9,11,12,13,14,15] (by kernel_rfl) (by kernel_rfl) (by kernel_rfl) F77.s11 (fun n x k => F77.l11 N n x.1 x.2.1 x.2.2.1 x.2.2.2.1 x.2.2.2.2.1 x.2.2.2.2.2.1 x.2.2.2.2.2.2.1 x.2.2.2.2.2.2.2.1 x.2.2.2.2.2.2.2.2.1 x.2.2.2.2.2.2.2.2.2.1 x.2.2.2.2.2.2.2.2.2.2.1 x.2.2.2.2.2.2.2.2.2.2.2.1 x.2.2.2.2.2.2.2.2.2.2.2.2.1 x.2.2.2.2.2.2.2.2.2.2.2.2.2.1 (fun r0 r1 => k (.ret) (Sh.mk F77.e11_0 (r0, r1, ()))) (fun r0 r1 r2 r3 r4 r5 r6 r7 r8 r9 r10 r11 r12 r13 r14 => k (.exit 2) (Sh.mk F77.e11_1 (r0, r1, r2, r3, r4, r5, r6, r7, r8, r9, r10, r11, r12, r13, r14, ())))) (fun _ _ => rfl) (fun _ _ _ => by kernel_rfl) N
abbrev F77.s7 : Sh := [(6, .one .bool), (8, .one (.addr 4 0)), (9, .slot false [.lst .frz 62 kd1, .lst .frz 71 kd8, .lst .frz 100 kd11, .lst .frz 55 kd13]), (10, .one (.addr 5 0)), (11, .slot false [.lst .frz 3 .i, .lst .frz 3 .i]), (16, .one (.view 8 0)), (17, .slot true [.lst .own 3 .i]), (18, .one .i), (22, .one (.view 11 0)), (23, .slot true [.lst .own 3 .i]), (24, .one (.view 12 0)), (25, .slot true [.lst .own 4 .bool]), (26, .one .i)]
abbrev F77.e7_0 : Sh := [(16, .one (.view 8 0)), (17, .slot true [.lst .own 3 .i]), (18, .one .i)]
abbrev F77.e7_1 : Sh := [(16, .one (.view 11 0)), (18, .one .i), (23, .slot true [.lst .own 3 .i])]
abbrev F77.e7_2 : Sh := [(6, .one .bool), (8, .one (.addr 4 0)), (9, .slot false [.lst .frz 62 kd1, .lst .frz 71 kd8, .lst .frz 100 kd11, .lst .frz 55 kd13]), (10, .one (.addr 5 0)), (11, .slot false [.lst .frz 3 .i, .lst .frz 3 .i]), (16, .one (.view 8 0)), (17, .slot true [.lst .own 3 .i]), (18, .one .i), (22, .one (.view 11 0)), (23, .slot true [.lst .own 3 .i]), (24, .one (.view 12 0)), (25, .slot true [.lst .own 4 .bool]), (26, .one .i), (62, .one .bool)]
noncomputable def F77.X7 (N : Nat) : LpC Try.prog F77.fx := mkL (F77.cs N) [F77.X11 N] ((loopsOf (bodyOf Try.f77)).getD 0 .skip) 7 [3,4,5,8,9,11,12,13] (by kernel_rfl) (by kernel_rfl) (by kernel_rfl) F77.s7 (fun n x k => F77.l7 N n x.1 x.2.1 x.2.2.1 x.2.2.2.1 x.2.2.2.2.1 x.2.2.2.2.2.1 x.2.2.2.2.2.2.1 x.2.2.2.2.2.2.2.1 x.2.2.2.2.2.2.2.2.1 x.2.2.2.2.2.2.2.2.2.1 x.2.2.2.2.2.2.2.2.2.2.1 x.2.2.2.2.2.2.2.2.2.2.2.1 (fun r0 r1 => k (.ret) (Sh.mk F77.e7_0 (r0, r1, ()))) (fun r0 r1 => k (.ret) (Sh.mk F77.e7_1 (r0, r1, ()))) (fun r0 r1 r2 r3 r4 r5 r6 r7 r8 r9 r10 r11 r12 => k (.exit 0) (Sh.mk F77.e7_2 (r0, r1, r2, r3, r4, r5, r6, r7, r8, r9, r10, r11, r12, ())))) (fun _ _ => rfl) (fun _ _ _ => by kernel_rfl) N
noncomputable def F77.C {β : Type} (N : Nat) := (Sealed fun β => @F77.K β).1 β N
theorem F77.C_eq {β : Type} (N : Nat) : @F77.C β N = @F77.K β N := congrFun (congrFun (Sealed fun β => @F77.K β).2 β) N
noncomputable def F77.X (N : Nat) : Ctr Try.prog := mkF 77 Try.f77 F77.fx (F77.cs N) [F77.X7 N] F77.i (fun x k => F77.C N x.1 x.2.1 x.2.2.1 x.2.2.2.1 x.2.2.2.2.1 x.2.2.2.2.2.1 x.2.2.2.2.2.2.1 x.2.2.2.2.2.2.2.1 (fun r0 r1 => k (Sh.mk F77.o0 (r0, r1, ())))) (by intros; rw [F77.C_eq]; kernel_rfl) (by kernel_rfl) (by kernel_rfl) (by kernel_rfl) (by kernel_rfl) rfl (by kernel_rfl) rfl (by kernel_rfl) (by kernel_rfl) (by kernel_rfl) (.dead _ 77) rfl
end Go.Vi.B
/- minecontrol/minecontrolref12.Fall -/
namespace Go.Vi.B
open Go.Proofs
set_option linter.unusedVariables false
set_option maxRecDepth 100000
abbrev F67.i : Sh := [(0, .agg [.lst .frz 62 kd1, .lst .frz 71 kd8, .lst .frz 100 kd11, .lst .frz 55 kd13]), (2, .agg [.lst .frz 3 .i, .lst .frz 3 .i]), (4, .one (.lst .frz 3 .i))]
abbrev F67.o0 : Sh := [(0, .tup [(false, [.view 0 0]), (false, [.i])]), (1, .slot true [.lst .own 3 .i, .undef])]
noncomputable def F67.K {β : Type} (N : Nat) (a0 : List Pl) (a1 : List Ro) (a2 : List Fa) (a3 : List Do) (a4 a5 a6 : List Int) (k0 : Int → List Int → Option β) : Option β :=
 F77.C N a0 a1 a2 a3 a4 a5 a6 false fun r1 r2 =>
 k0 r1 r2
noncomputable def F67.fx : Fx := ⟨Try.prog, [], [], [(0,[2,3,4]),(1,[6,7])], 14, []⟩
noncomputable def F67.cs (N : Nat) : List (Ctr Try.prog) := [F77.X N]
noncomputable def F67.C {β : Type} (N : Nat) := (Sealed fun β => @F67.K β).1 β N
theorem F67.C_eq {β : Type} (N : Nat) : @F67.C β N = @F67.K β N := congrFun (congrFun (Sealed fun β => @F67.K β).2 β) N
noncomputable def F67.X (N : Nat) : Ctr Try.prog := mkF 67 Try.f67 F67.fx (F67.cs N) [] F67.i (fun x k => F67.C N x.1 x.2.1 x.2.2.1 x.2.2.2.1 x.2.2.2.2.1 x.2.2.2.2.2.1 x.2.2.2.2.2.2.1 (fun r0 r1 => k (Sh.mk F67.o0 (r0, r1, ())))) (by intros; rw [F67.C_eq]; kernel_rfl) (by kernel_rfl) (by kernel_rfl) (by kernel_rfl) (by kernel_rfl) rfl (by kernel_rfl) rfl (by kernel_rfl) (by kernel_rfl) (by kernel_rfl) (.dead _ 67) rfl
end Go.Vi.B
/- minecontrol/minecontrolref12.Rise -/
namespace Go.Vi.B
open Go.Proofs
set_option linter.unusedVariables false
set_option maxRecDepth 100000
abbrev F68.i : Sh := [(0, .agg [.lst .frz 62 kd1, .lst .frz 71 kd8, .lst .frz 100 kd11, .lst .frz 55 kd13]), (2, .agg [.lst .frz 3 .i, .lst .frz 3 .i]), (4, .one (.lst .frz 3 .i))]
abbrev F68.o0 : Sh := [(0, .tup [(false, [.view 0 0]), (false, [.i])]), (1, .slot true [.lst .own 3 .i, .undef])]
noncomputable def F68.K {β : Type} (N : Nat) (a0 : List Pl) (a1 : List Ro) (a2 : List Fa) (a3 : List Do) (a4 a5 a6 : List Int) (k0 : Int → List Int → Option β) : Option β :=
 F77.C N a0 a1 a2 a3 a4 a5 a6 true fun r1 r2 =>
 k0 r1 r2
noncomputable def F68.fx : Fx := ⟨Try.prog, [], [], [(0,[2,3,4]),(1,[6,7])], 14, []⟩
noncomputable def F68.cs (N : Nat) : List (Ctr Try.prog) := [F77.X N]
noncomputable def F68.C {β : Type} (N : Nat) := (Sealed fun β => @F68.K β).1 β N
theorem F68.C_eq {β : Type} (N : Nat) : @F68.C β N = @F68.K β N := congrFun (congrFun (Sealed fun β => @F68.K β).2 β) N
noncomputable def F68.X (N : Nat) : Ctr Try.prog := mkF 68 Try.f68 F68.fx (F68.cs N) [] F68.i (fun x k => F68.C N x.1 x.2.1 x.2.2.1 x.2.2.2.1 x.2.2.2.2.1 x.2.2.2.2.2.1 x.2.2.2.2.2.2.1 (fun r0 r1 => k (Sh.mk F68.o0 (r0, r1, ())))) (by intros; rw [F68.C_eq]; kernel_rfl) (by kernel_rfl) (by kernel_rfl) (by kernel_rfl) (by kernel_rfl) rfl (by kernel_rfl) rfl (by kernel_rfl) (by kernel_rfl) (by kernel_rfl) (.dead _ 68) rfl
end Go.Vi.B
/- minecontrol/minecontrolref12.Solve -/
namespace Go.Vi.B
open Go.Proofs
set_option linter.unusedVariables false
set_option maxRecDepth 100000
abbrev F54.i : Sh := [(0, .agg [.lst .frz 62 kd1, .lst .frz 71 kd8, .lst .frz 100 kd11, .lst .frz 55 kd13]), (2, .agg [.lst .frz 3 .i, .lst .frz 3 .i])]
abbrev F54.o0 : Sh := [(0, .tup [(true, [.view 0 0, .view 0 1]), (false, [.i])]), (1, .slot true [.lst .own 3 .i, .lst .own 3 .i, .undef])]
noncomputable def F54.K {β : Type} (N : Nat) (a0 : List Pl) (a1 : List Ro) (a2 : List Fa) (a3 : List Do) (a4 a5 : List Int) (k0 : Int → List Int → List Int → Option β) : Option β :=
 ck ((a0.length : Int) = (a0.length : Int)) <|
 ck (0 ≤ (a0.length : Int)) <|
 ck ((a0.length : Int) ≤ 1000000000) <|
 F67.C N a0 a1 a2 a3 a4 a5 (List.replicate (Int.toNat (a0.length : Int)) (0 : Int)) fun r1 r2 =>
 br (r1 != 0) (k0 r1 [] []) <|
 F68.C N a0 a1 a2 a3 a4 a5 r2 fun r3 r4 =>
 br (r3 != 0) (k0 r3 [] []) <|
 F67.C N a0 a1 a2 a3 a4 a5 r4 fun r5 r6 =>
 br (r5 != 0) (k0 r5 [] []) <|
 k0 0 r6 r4
noncomputable def F54.fx : Fx := ⟨Try.prog, [4], [], [(0,[2,3,4]),(1,[2,3,4,6,7]),(2,[2,3,4,6,7,22]),(3,[4,5]),(4,[2,3,4,7,8]),(5,[2,3,4,7,8,33]),(6,[4,5]),(7,[4,7,8,9]),(8,[4,7,8,9,44]),(9,[4,5]),(10,[4,5])], 50, []⟩
noncomputable def F54.cs (N : Nat) : List (Ctr Try.prog) := [F67.X N, F68.X N]
noncomputable def F54.C {β : Type} (N : Nat) := (Sealed fun β => @F54.K β).1 β N
theorem F54.C_eq {β : Type} (N : Nat) : @F54.C β N = @F54.K β N := congrFun (congrFun (Sealed fun β => @F54.K β).2 β) N
noncomputable def F54.X (N : Nat) : Ctr Try.prog := mkF 54 Try.f54 F54.fx (F54.cs N) [] F54.i (fun x k => F54.C N x.1 x.2.1 x.2.2.1 x.2.2.2.1 x.2.2.2.2.1 x.2.2.2.2.2.1 (fun r0 r1 r2 => k (Sh.mk F54.o0 (r0, r1, r2, ())))) (by intros; rw [F54.C_eq]; kernel_rfl) (by kernel_rfl) (by kernel_rfl) (by kernel_rfl) (by kernel_rfl) rfl (by kernel_rfl) rfl (by kernel_rfl) (by kernel_rfl) (by kernel_rfl) (.dead _ 54) rfl
end Go.Vi.B
/- minecontrol/minecontroldraw.Solved -/
namespace Go.Vi.B
open Go.Proofs
set_option linter.unusedVariables false
set_option maxRecDepth 100000
abbrev F29.i : Sh := [(0, .agg [.lst .frz 62 kd1, .lst .frz 71 kd8, .lst .frz 100 kd11, .lst .frz 55 kd13]), (2, .agg [.lst .frz 3 .i, .lst .frz 3 .i])]
abbrev F29.o0 : Sh := [(0, .tup [(true, [.view 0 0, .view 0 1]), (false, [.bool])]), (1, .slot true [.lst .own 3 .i, .lst .own 3 .i, .undef])]
noncomputable def F29.K {β : Type} (N : Nat) (a0 : List Pl) (a1 : List Ro) (a2 : List Fa) (a3 : List Do) (a4 a5 : List Int) (k0 : Bool → List Int → List Int → Option β) : Option β :=
 F54.C N a0 a1 a2 a3 a4 a5 fun r1 r2 r3 =>
 k0 (decide (r1 = 0)) r2 r3
noncomputable def F29.fx : Fx := ⟨Try.prog, [4], [], [(0,[2,3,4]),(1,[4,6,7]),(2,[4,5])], 17, []⟩
noncomputable def F29.cs (N : Nat) : List (Ctr Try.prog) := [F54.X N]
noncomputable def F29.C {β : Type} (N : Nat) := (Sealed fun β => @F29.K β).1 β N
theorem F29.C_eq {β : Type} (N : Nat) : @F29.C β N = @F29.K β N := congrFun (congrFun (Sealed fun β => @F29.K β).2 β) N
noncomputable def F29.X (N : Nat) : Ctr Try.prog := mkF 29 Try.f29 F29.fx (F29.cs N) [] F29.i (fun x k => F29.C N x.1 x.2.1 x.2.2.1 x.2.2.2.1 x.2.2.2.2.1 x.2.2.2.2.2.1 (fun r0 r1 r2 => k (Sh.mk F29.o0 (r0, r1, r2, ())))) (by intros; rw [F29.C_eq]; kernel_rfl) (by kernel_rfl) (by kernel_rfl) (by kernel_rfl) (by kernel_rfl) rfl (by kernel_rfl) rfl (by kernel_rfl) (by kernel_rfl) (by kernel_rfl) (.dead _ 29) rfl
end Go.Vi.B
/- The document's relaxation ends; what it answers without an error lies in the range. -/
namespace Go.Vi.A
theorem rng_zero {xs : List Int} (h : ∀ x ∈ xs, -70368744177664 ≤ x ∧ x ≤ 70368744177664) : ferr rngF 0 xs = 0 := (ferr_zero xs 0).2 fun j x hx => by
  have := h x (List.mem_of_getElem? hx)
  unfold rngF
  rw [if_neg (by omega), if_neg (by omega)]
noncomputable def fixB (pl : List Pl) (ro : List Ro) (i : Nat) : Bool := !airB pl ro i || topB pl i
noncomputable def fixE (pl : List Pl) (ro : List Ro) (i : Nat) (x : Int) : Int := if fixB pl ro i = true then if x = 0 then 0 else 12 else 0
end Go.Vi.A
namespace Go.Vi.B
open Go.Proofs Go.Vi.A
set_option linter.unusedVariables false
variable {N : Nat} (hN : 1000 ≤ N) {β : Type}
include hN in
theorem ref12_check {pl : List Pl} {ro : List Ro} {fa : List Fa} {dr : List Do} {sf sd ps : List Int} (h0 : airE pl ro fa dr = 0) (hf : fitE fa dr sf sd = 0) (hp : PrOk pl ps) (k : Int → Option β) : F81.C N pl ro fa dr sf sd ps k = k (ferr (fixE pl ro) 0 ps) := by
  have h := AirOk.of h0
  have hn := h.npl
  have hl := hp.len
  rw [F81.C_eq]; unfold F81.K
  rw [ref09_Check hN, h0, ref09_Right hN]
  unfold nz rightE
  rw [h0, thn, if_pos rfl, hf]
  simp only [bne_self_eq_false, decide_true, res]
  rw [if_pos (by omega), ref11_Ranged hN (by omega), nz, rng_zero hp.rng]
  simp only [decide_true, res]
  rw [ref11_Fixed hN hn h.nro h.rd]
  refine (lerr (xs := ps) (fixE pl ro) (L := fun n j => F81.l12 N n ps 0 (tab pl.length fun i => !airB pl ro i || topB pl i) (j : Int) (fun z5 => k z5) fun _ _ _ _ _ => k 0) (k0 := k) (k1 := k 0)
    (fun n => by simp only [F81.l12, res, Int.lt_irrefl, if_false]) (fun i x hx n => by
      have hi := idx hx
      simp only [F81.l12, res, Int.toNat_natCast, hx, ge_some, w_succ (show i < 4000000000 by omega), tab_get (show i < pl.length by omega)]
      rw [if_pos (by omega), if_pos (by omega)]
      unfold fixE fixB
      cases c : (!airB pl ro i || topB pl i) with
      | false => simp only [res, Bool.false_eq_true, if_false, if_true]
      | true =>
        simp only [res, if_true]
        first | (rw [if_pos (by omega)]; exact ifE' (by decide) fun _ => out0) | exact ifE' (by decide) fun _ => out0) N 0 (by omega) (by omega)).trans ?_
  rw [List.drop_zero]; exact endK
/-- How a round may end: with a list in the range, or with the error. -/
def RRes {β : Type} (pl : List Pl) (ro : List Ro) (fa : List Fa) (dr : List Do) (sf sd : List Int) (up : Bool) (r : Int) (L : (List Int → Int → Option β) → (Bool → List Pl → List Ro → List Fa → List Do → List Int → List Int → List Int → Int → List Int → List Bool → Int → Bool → Int → Bool → Option β) → Option β) : Prop :=
  (∃ ps' ch', PrOk pl ps' ∧ ∀ K0 K1, L K0 K1 = K1 up pl ro fa dr sf sd [] 0 ps' (tab pl.length (fixB pl ro)) r ch' (pl.length : Int) false) ∨ ∀ K0 K1, L K0 K1 = K0 [] 2
include hN in
theorem relax_round {pl : List Pl} {ro : List Ro} {fa : List Fa} {dr : List Do} {sf sd : List Int} (h : AirOk pl ro fa dr) (hs : SetOk fa dr sf sd) (up : Bool) (r : Int) :
    ∀ (m i n : Nat) (ps : List Int) (ch : Bool), i + m = pl.length → m < n → PrOk pl ps →
    RRes (β := β) pl ro fa dr sf sd up r fun K0 K1 => F77.l11 N n up pl ro fa dr sf sd [] 0 ps (tab pl.length (fixB pl ro)) r ch (i : Int) K0 K1
  | m, i, 0, ps, ch, hm, hn, hp => by omega
  | 0, i, n + 1, ps, ch, hm, hn, hp => by
    have hl := hp.len
    refine .inl ⟨ps, ch, hp, fun K0 K1 => ?_⟩
    have e : i = pl.length := by omega
    subst e
    simp only [F77.l11, res, hl, Int.lt_irrefl, decide_false]
  | m + 1, i, n + 1, ps, ch, hm, hn, hp => by
    have hl := hp.len
    have hpl := h.npl
    have hi : i < pl.length := by omega
    obtain ⟨z, hz, z0, z1⟩ := hp.get (i := (i : Int)) (by omega) (by omega)
    rw [Int.toNat_natCast] at hz
    have ih := relax_round h hs up r m (i + 1) n
    have go : ∀ ps2 ch2, PrOk pl ps2 → (∀ K0 K1, F77.l11 N (n + 1) up pl ro fa dr sf sd [] 0 ps (tab pl.length (fixB pl ro)) r ch (i : Int) K0 K1 = F77.l11 (β := β) N n up pl ro fa dr sf sd [] 0 ps2 (tab pl.length (fixB pl ro)) r ch2 ((i + 1 : Nat) : Int) K0 K1) →
        RRes (β := β) pl ro fa dr sf sd up r fun K0 K1 => F77.l11 N (n + 1) up pl ro fa dr sf sd [] 0 ps (tab pl.length (fixB pl ro)) r ch (i : Int) K0 K1 := fun ps2 ch2 hp2 he => by
      rcases ih ps2 ch2 (by omega) (by omega) hp2 with ⟨ps', ch', g1, g2⟩ | g
      · exact Or.inl ⟨ps', ch', g1, fun K0 K1 => (he K0 K1).trans (g2 K0 K1)⟩
      · exact Or.inr fun K0 K1 => (he K0 K1).trans (g K0 K1)
    cases c : fixB pl ro i with
    | true =>
      refine go ps ch hp fun K0 K1 => ?_
      simp only [F77.l11, res, hl, Int.toNat_natCast, ge_some, w_succ (show i < 4000000000 by omega), tab_get hi, c]
      rw [if_pos (by omega), if_pos (by omega)]
    | false =>
      cases up with
      | true =>
        obtain ⟨x, ok, x0, x1, ex⟩ := ref10_Up (β := β) hN h hs (p := (i : Int)) (by omega) (by omega) hp
        cases ok with
        | false =>
          right
          intro K0 K1
          simp only [F77.l11, res, hl, Int.toNat_natCast, ge_some, tab_get hi, c, ex]
          rw [if_pos (by omega), if_pos (by omega)]
        | true =>
          cases ch with
          | true =>
            refine go (ps.set i x) true (hp.set i x0 x1) fun K0 K1 => ?_
            simp only [F77.l11, res, hl, Int.toNat_natCast, ge_some, w_succ (show i < 4000000000 by omega), tab_get hi, c, ex, hz]
            rw [if_pos (by omega), if_pos (by omega)]
            first | rfl | rw [if_pos (by omega)]
          | false =>
            refine go (ps.set i x) (x != z) (hp.set i x0 x1) fun K0 K1 => ?_
            simp only [F77.l11, res, hl, Int.toNat_natCast, ge_some, w_succ (show i < 4000000000 by omega), tab_get hi, c, ex, hz]
            rw [if_pos (by omega), if_pos (by omega)]
            first | rfl | rw [if_pos (by omega)]
      | false =>
        obtain ⟨x, ok, x0, x1, ex⟩ := ref10_Down (β := β) hN h hs (p := (i : Int)) (by omega) (by omega) hp
        cases ok with
        | false =>
          right
          intro K0 K1
          simp only [F77.l11, res, hl, Int.toNat_natCast, ge_some, tab_get hi, c, ex]
          rw [if_pos (by omega), if_pos (by omega)]
        | true =>
          cases ch with
          | true =>
            refine go (ps.set i x) true (hp.set i x0 x1) fun K0 K1 => ?_
            simp only [F77.l11, res, hl, Int.toNat_natCast, ge_some, w_succ (show i < 4000000000 by omega), tab_get hi, c, ex, hz]
            rw [if_pos (by omega), if_pos (by omega)]
            first | rfl | rw [if_pos (by omega)]
          | false =>
            refine go (ps.set i x) (x != z) (hp.set i x0 x1) fun K0 K1 => ?_
            simp only [F77.l11, res, hl, Int.toNat_natCast, ge_some, w_succ (show i < 4000000000 by omega), tab_get hi, c, ex, hz]
            rw [if_pos (by omega), if_pos (by omega)]
            first | rfl | rw [if_pos (by omega)]
include hN in
theorem relax_rounds {pl : List Pl} {ro : List Ro} {fa : List Fa} {dr : List Do} {sf sd : List Int} (h : AirOk pl ro fa dr) (hs : SetOk fa dr sf sd) (up : Bool) :
    ∀ (m r n : Nat) (ps : List Int), r + m = 200 → m < n → PrOk pl ps →
    ∃ (e : Int) (xs : List Int), (e = 0 → PrOk pl xs) ∧ ∀ k : Int → List Int → Option β, (F77.l7 N n up pl ro fa dr sf sd [] 0 ps (tab pl.length (fixB pl ro)) (r : Int) (fun z36 z37 => k z37 z36) (fun z38 z39 => k z38 z39) fun _ _ _ _ _ _ _ _ _ _ _ _ _ => k 2 []) = k e xs
  | m, r, 0, ps, hm, hn, hp => by omega
  | 0, r, n + 1, ps, hm, hn, hp => by
    refine ⟨2, [], (fun g => absurd g (by decide)), fun k => ?_⟩
    simp only [F77.l7, res]
    rw [if_neg (by omega)]
  | m + 1, r, n + 1, ps, hm, hn, hp => by
    have hl := h.npl
    rcases relax_round (β := β) hN h hs up (r : Int) pl.length 0 N ps false (by omega) (by omega) hp with ⟨ps', ch', g1, g2⟩ | g
    · cases ch' with
      | false =>
        refine ⟨0, ps', fun _ => g1, fun k => ?_⟩
        simp only [F77.l7, res]
        rw [if_pos (by omega)]
        exact g2 _ _
      | true =>
        obtain ⟨e, xs, a1, a2⟩ := relax_rounds h hs up m (r + 1) n ps' (by omega) (by omega) g1
        refine ⟨e, xs, a1, fun k => ?_⟩
        rw [← a2 k]
        simp only [F77.l7, res]
        rw [if_pos (by omega)]
        refine (g2 _ _).trans ?_
        simp only [res, w_succ (show r < 4000000000 by omega)]
    · refine ⟨2, [], (fun g => absurd g (by decide)), fun k => ?_⟩
      simp only [F77.l7, res]
      rw [if_pos (by omega)]
      exact g _ _
include hN in
theorem ref12_relax {pl : List Pl} {ro : List Ro} {fa : List Fa} {dr : List Do} {sf sd ps : List Int} (h0 : airE pl ro fa dr = 0) (hf : fitE fa dr sf sd = 0) (hp : PrOk pl ps) (up : Bool) :
    ∃ (e : Int) (xs : List Int), (e = 0 → PrOk pl xs) ∧ ∀ k : Int → List Int → Option β, F77.C N pl ro fa dr sf sd ps up k = k e xs := by
  have h := AirOk.of h0
  have hn := h.npl
  have hl := hp.len
  by_cases c : ferr (fixE pl ro) 0 ps = 0
  · obtain ⟨e, xs, a1, a2⟩ := relax_rounds (β := β) hN h (SetOk.of hf) up 200 0 N ps (by omega) (by omega) hp
    refine ⟨e, xs, a1, fun k => ?_⟩
    rw [F77.C_eq]; unfold F77.K
    rw [ref12_check hN h0 hf hp, c]
    simp only [bne_self_eq_false, res]
    rw [if_pos (by omega), ref11_Fixed hN hn h.nro h.rd]
    exact a2 k
  · refine ⟨_, [], fun g => absurd g c, fun k => ?_⟩
    rw [F77.C_eq]; unfold F77.K
    rw [ref12_check hN h0 hf hp]
    simp only [show (ferr (fixE pl ro) 0 ps != 0) = true from bne_iff_ne.2 c, res]
theorem zeros_ok (pl : List Pl) : PrOk pl (List.replicate pl.length (0 : Int)) := ⟨by simp, fun x hx => by
  have := List.eq_of_mem_replicate hx
  omega⟩
include hN in
theorem draw_Solved {pl : List Pl} {ro : List Ro} {fa : List Fa} {dr : List Do} {sf sd : List Int} (h0 : airE pl ro fa dr = 0) (hf : fitE fa dr sf sd = 0) :
    ∃ (ok : Bool) (xs ys : List Int), (ok = true → PrOk pl xs ∧ PrOk pl ys) ∧ ∀ k : Bool → List Int → List Int → Option β, F29.C N pl ro fa dr sf sd k = k ok xs ys := by
  have h := AirOk.of h0
  have hn := h.npl
  simp only [F29.C_eq]; unfold F29.K
  simp only [F54.C_eq]; unfold F54.K
  simp only [F67.C_eq, F68.C_eq]; unfold F67.K F68.K
  simp only [res, Int.toNat_natCast, show (0 : Int) ≤ (pl.length : Int) by omega, show (pl.length : Int) ≤ 1000000000 by omega, if_true]
  obtain ⟨e1, x1, a1, b1⟩ := ref12_relax (β := β) hN h0 hf (zeros_ok pl) false
  simp only [b1]
  by_cases c1 : e1 = 0
  · obtain ⟨e2, x2, a2, b2⟩ := ref12_relax (β := β) hN h0 hf (a1 c1) true
    simp only [c1, if_true, b2]
    by_cases c2 : e2 = 0
    · obtain ⟨e3, x3, a3, b3⟩ := ref12_relax (β := β) hN h0 hf (a2 c2) false
      simp only [c2, if_true, b3]
      by_cases c3 : e3 = 0
      · exact ⟨true, x3, x2, fun _ => ⟨a3 c3, a2 c2⟩, fun k => by simp only [c3, if_true, decide_true]⟩
      · exact ⟨false, [], [], (fun g => nomatch g), fun k => by simp only [c3, if_false, decide_false]⟩
    · exact ⟨false, [], [], (fun g => nomatch g), fun k => by simp only [c2, if_false, decide_false]⟩
  · exact ⟨false, [], [], (fun g => nomatch g), fun k => by simp only [c1, if_false, decide_false]⟩
end Go.Vi.B
/- Consequences for what is made: how it opens, and its limits. -/
namespace Go.Vi.A
set_option linter.unusedVariables false
abbrev roZ : Ro := (0, 0, 0, 0, false, true, (0, 0), (0, 0))
theorem open_of {pl : List Pl} {ro : List Ro} {fa : List Fa} {dr : List Do} {sf sd : List Int} (ha : airE pl ro fa dr = 0) (hs : fitE fa dr sf sd = 0) {i : Int} (hi : 0 ≤ i) {r : Ro} (hr : ro[i.toNat]? = some r) : Go.Vi.B.openB pl ro fa dr sf sd i = !r.2.2.2.2.2.1 := by
  have hl := idx hr
  unfold Go.Vi.B.openB
  have e : rightE pl ro fa dr sf sd = 0 := by unfold rightE; rw [thn_zero]; exact ⟨ha, hs⟩
  rw [e, getD_eq hr, decide_eq_true (show i ≥ 0 by omega), decide_eq_true (show i < (ro.length : Int) by omega)]; rfl
theorem drop_of {pl : List Pl} {ro : List Ro} {fa : List Fa} {dr : List Do} {sf sd : List Int} (ha : airE pl ro fa dr = 0) (hs : fitE fa dr sf sd = 0) {i : Int} (hi : 0 ≤ i) {r : Ro} (hr : ro[i.toNat]? = some r) (hc : r.2.2.2.2.2.1 = false) {q : Int} (h0 : -1048577 ≤ q) (h1 : q ≤ 1048577) :
    Go.Vi.B.dropS pl ro fa dr sf sd i q = drop (dr.zip sd) (fa.zip sf) i r q := by
  unfold Go.Vi.B.dropS
  rw [open_of ha hs hi hr, hc, getD_eq hr]
  simp only [Bool.not_false, if_true]
  rw [if_neg (by omega), if_neg (by omega)]
theorem flow_of {pl : List Pl} {ro : List Ro} {fa : List Fa} {dr : List Do} {sf sd : List Int} (ha : airE pl ro fa dr = 0) (hs : fitE fa dr sf sd = 0) {i : Int} (hi : 0 ≤ i) {r : Ro} (hr : ro[i.toNat]? = some r) (hc : r.2.2.2.2.2.1 = false) (p : Int) :
    Go.Vi.B.flowS pl ro fa dr sf sd i p = (fLow (drop (dr.zip sd) (fa.zip sf) i r) p, fHigh (drop (dr.zip sd) (fa.zip sf) i r) p) := by
  unfold Go.Vi.B.flowS
  rw [open_of ha hs hi hr, hc, getD_eq hr]; rfl
theorem closed_of {pl : List Pl} {ro : List Ro} {fa : List Fa} {dr : List Do} {sf sd : List Int} (ha : airE pl ro fa dr = 0) (hs : fitE fa dr sf sd = 0) {i : Int} (hi : 0 ≤ i) {r : Ro} (hr : ro[i.toNat]? = some r) (hc : r.2.2.2.2.2.1 = true) (q : Int) :
    Go.Vi.B.dropS pl ro fa dr sf sd i q = (0, 0) ∧ Go.Vi.B.flowS pl ro fa dr sf sd i q = (0, 0) := by
  unfold Go.Vi.B.dropS Go.Vi.B.flowS
  rw [open_of ha hs hi hr, hc]; exact ⟨rfl, rfl⟩
/-- The parts of a state that fits. -/
structure StOk (pl : List Pl) (ro : List Ro) (dz : DS) (fz : FS) (xp xq : List Int) : Prop where
  lp : xp.length = pl.length
  lq : xq.length = ro.length
  pr : ferr prE 0 xp = 0
  fl : ferr flE 0 xq = 0
  clo : ∀ (j : Nat) r q, ro[j]? = some r → xq[j]? = some q → r.2.2.2.2.2.1 = true → q = 0
  dro : ∀ (j : Nat) r q, ro[j]? = some r → xq[j]? = some q → r.2.2.2.2.2.1 = false → (drop dz fz j r q).1 ≤ xp.getD r.1.toNat 0 - xp.getD r.2.1.toNat 0 ∧ xp.getD r.1.toNat 0 - xp.getD r.2.1.toNat 0 ≤ (drop dz fz j r q).2
  sur : ∀ (j : Nat) p, pl[j]? = some p → p.2 = true → xp.getD j 0 = 0
  net : ∀ (j : Nat) p, pl[j]? = some p → p.2 = false → netF (ro.zip xq) j = 0
theorem StOk.of {pl : List Pl} {ro : List Ro} {dz : DS} {fz : FS} {xp xq : List Int} (h : stE pl ro dz fz xp xq = 0) : StOk pl ro dz fz xp xq := by
  unfold stE at h
  split at h
  · split at h
    · rw [thn_zero, thn_zero, thn_zero, thn_zero] at h
      obtain ⟨h1, h2, h3, h4, h5⟩ := h
      rw [ferr_zero (f := cloE xq)] at h3
      rw [ferr_zero (f := sumE (ro.zip xq) xp)] at h4
      rw [ferr_zero (f := droE dz fz xp xq)] at h5
      refine ⟨by omega, by omega, h1, h2, fun j r q hr hq hc => ?_, fun j r q hr hq hc => ?_, fun j p hp hs => ?_, fun j p hp hs => ?_⟩
      · have := h3 j r hr
        unfold cloE at this
        rw [Nat.zero_add, if_pos hc, getD_eq hq] at this
        split at this
        · assumption
        · exact absurd this (by decide)
      · have := h5 j r hr
        unfold droE at this
        rw [Nat.zero_add, hc, if_neg (by decide), getD_eq hq, outE_zero] at this
        exact this
      · have := h4 j p hp
        unfold sumE at this
        rw [Nat.zero_add, if_pos hs] at this
        split at this
        · assumption
        · exact absurd this (by decide)
      · have := h4 j p hp
        unfold sumE at this
        rw [Nat.zero_add, hs, if_neg (by decide)] at this
        split at this
        · assumption
        · exact absurd this (by decide)
    · exact absurd h (by decide)
  · exact absurd h (by decide)
/-- At the limits of flows the pressures of what is made are far away. -/
theorem MadeOk.far {pl : List Pl} {ro : List Ro} {fa : List Fa} {dr : List Do} {sf sd xp xq : List Int} (h : MadeOk pl ro fa dr sf sd xp xq) (sf' sd' : List Int) (i : Int) {r : Ro} (hr : r ∈ ro) :
    (drop (dr.zip sd') (fa.zip sf') i r (-1048577)).2 ≤ -1000000000000 ∧ 1000000000000 ≤ (drop (dr.zip sd') (fa.zip sf') i r 1048577).1 := by
  have ha := AirOk.of h.air
  obtain ⟨r1, r2, r3⟩ := Go.Vi.B.rOf_bd ha sd' i hr
  have hl := h.lift r hr
  have bf : ∀ q, -6000 ≤ (fsum (fa.zip sf') i q).1 ∧ (fsum (fa.zip sf') i q).1 ≤ (fsum (fa.zip sf') i q).2 ∧ (fsum (fa.zip sf') i q).2 ≤ 6000 := fun q => by
    have := sumS_bd (lo := -3000) (hi := 3000) (by omega) (by omega) (((fa.zip sf').filter fun x => decide (x.1.1 = i)).map fun x => sure x.1.2.2.2 x.1.2.1 x.2 q) 2 (fun y hy => by
      obtain ⟨x, hx, rfl⟩ := List.mem_map.1 hy
      have hx := (List.of_mem_zip (List.mem_filter.1 hx).1).1
      have hp := h.pts _ hx
      have := hp.f1 0 (by have := hp.ne; omega)
      exact sure_max (ha.fan _ hx).1 this.2 (by omega) _ _ _) (by
      have := List.length_filter_le (fun x : Fa × Int => decide (x.1.1 = i)) (fa.zip sf')
      have a := h.nfa
      simp only [List.length_map, List.length_zip] at this ⊢; omega)
    unfold A.fsum A.bsum; omega
  have b1 := bf (-1048577); have b2 := bf 1048577
  have m1 := Int.mul_le_mul_of_nonneg_right r1 (show (0 : Int) ≤ 1099513724929 by omega)
  unfold drop drp
  rw [if_pos (by omega), if_neg (by omega)]
  simp only [show ((-1048577 : Int) * -1048577) = 1099513724929 by decide, show ((1048577 : Int) * 1048577) = 1099513724929 by decide]
  omega
end Go.Vi.A
/- minecontrol/minecontrollaw11.bounds -/
namespace Go.Vi.B
open Go.Proofs
set_option linter.unusedVariables false
set_option maxRecDepth 100000
abbrev F10.i : Sh := [(0, .one (.addr 0 0)), (1, .slot false [.lst .pin 5 (.int .u8), .i]), (2, .agg [.lst .frz 62 kd1, .lst .frz 71 kd8, .lst .frz 100 kd11, .lst .frz 55 kd13]), (4, .agg [.lst .frz 3 .i, .lst .frz 3 .i]), (6, .agg [.lst .frz 3 .i, .lst .frz 3 .i])]
abbrev F10.o0 : Sh := [(0, .agg [.view 0 0, .view 0 1]), (1, .slot true [.lst .own 3 .i, .lst .own 3 .i]), (2, .one (.addr 1 0)), (3, .slot false [.lst .pin 5 (.int .u8), .i])]
noncomputable def F10.l5 {β : Type} (N : Nat) : Nat → (List Int) → Int → (List Pl) → (List Ro) → (List Fa) → (List Do) → (List Int) → (List Int) → (List Int) → (List Int) → Int → Int → (List Int → Int → List Pl → List Ro → List Fa → List Do → List Int → List Int → List Int → List Int → Int → Int → Bool → Option β) → Option β
 | 0, _, _, _, _, _, _, _, _, _, _, _, _, _ => none
 | n + 1, v0, v1, v2, v3, v4, v5, v6, v7, v8, v9, v10, v11, k0 =>
  bl (v11 < v10) (k0 v0 v1 v2 v3 v4 v5 v6 v7 v8 v9 v10 v11 (decide (v11 < v10))) <|
  ck (0 ≤ v11) <|
  ge (v2[v11.toNat]?) fun x1 =>
  bl (!x1.2) (F10.l5 N n v0 v1 v2 v3 v4 v5 v6 v7 v8 v9 v10 (w (v11 + 1)) k0) <|
  ck (0 ≤ v11) <|
  ge (v8[v11.toNat]?) fun _ =>
  ge (v8[v11.toNat]?) fun x3 =>
  F23.C N v0 v1 9000 fun r4 r5 r6 =>
  ck (0 ≤ v11) <|
  ge (v9[v11.toNat]?) fun _ =>
  ge (v9[v11.toNat]?) fun x8 =>
  F23.C N r5 r6 9000 fun r9 r10 r11 =>
  ck (0 ≤ v11) <|
  ge (v8[v11.toNat]?) fun _ =>
  ge (v8[v11.toNat]?) fun _ =>
  ck (0 ≤ v11) <|
  ge (v9[v11.toNat]?) fun _ =>
  ge (v9[v11.toNat]?) fun _ =>
  F10.l5 N n r10 r11 v2 v3 v4 v5 v6 v7 (v8.set v11.toNat (w (x3 - r4))) (v9.set v11.toNat (w (x8 + r9))) v10 (w (v11 + 1)) k0
noncomputable def F10.K {β : Type} (N : Nat) (a0 : List Int) (a1 : Int) (a2 : List Pl) (a3 : List Ro) (a4 : List Fa) (a5 : List Do) (a6 a7 a8 a9 : List Int) (k0 : List Int → List Int → List Int → Int → Option β) : Option β :=
 F29.C N a2 a3 a4 a5 a6 a7 fun r1 r2 r3 =>
 br (!r1) (
  ck (0 + a8.length ≤ 1000000000) <|
  ck (0 + a8.length ≤ 1000000000) <|
  F10.l5 N N a0 a1 a2 a3 a4 a5 [] [] a8 a8 (a8.length : Int) 0 fun z16 z17 _ _ _ _ _ _ z24 z25 _ _ _ =>
  F22.C N z16 z17 3 fun r29 r30 r31 =>
  bl r29 (k0 z24 z25 r30 r31) <|
  F23.C N r30 r31 (z24.length : Int) fun r32 r33 r34 =>
  ck (0 ≤ r32) <|
  ge (z24[r32.toNat]?) fun _ =>
  ge (z24[r32.toNat]?) fun x36 =>
  F24.C N r33 r34 (-2) 2 fun r37 r38 r39 =>
  ck (0 ≤ r32) <|
  ge (z24[r32.toNat]?) fun _ =>
  ge (z24[r32.toNat]?) fun _ =>
  ck (0 ≤ r32) <|
  ge (z25[r32.toNat]?) fun _ =>
  ge (z25[r32.toNat]?) fun x43 =>
  F24.C N r38 r39 (-2) 2 fun r44 r45 r46 =>
  ck (0 ≤ r32) <|
  ge (z25[r32.toNat]?) fun _ =>
  ge (z25[r32.toNat]?) fun _ =>
  k0 (z24.set r32.toNat (w (x36 + r37))) (z25.set r32.toNat (w (x43 + r44))) r45 r46) <|
 F22.C N a0 a1 4 fun r49 r50 r51 =>
 bl r49 (
  F22.C N r50 r51 3 fun r85 r86 r87 =>
  bl r85 (k0 r2 r3 r86 r87) <|
  F23.C N r86 r87 (r2.length : Int) fun r88 r89 r90 =>
  ck (0 ≤ r88) <|
  ge (r2[r88.toNat]?) fun _ =>
  ge (r2[r88.toNat]?) fun x92 =>
  F24.C N r89 r90 (-2) 2 fun r93 r94 r95 =>
  ck (0 ≤ r88) <|
  ge (r2[r88.toNat]?) fun _ =>
  ge (r2[r88.toNat]?) fun _ =>
  ck (0 ≤ r88) <|
  ge (r3[r88.toNat]?) fun _ =>
  ge (r3[r88.toNat]?) fun x99 =>
  F24.C N r94 r95 (-2) 2 fun r100 r101 r102 =>
  ck (0 ≤ r88) <|
  ge (r3[r88.toNat]?) fun _ =>
  ge (r3[r88.toNat]?) fun _ =>
  k0 (r2.set r88.toNat (w (x92 + r93))) (r3.set r88.toNat (w (x99 + r100))) r101 r102) <|
 ck (0 + a8.length ≤ 1000000000) <|
 ck (0 + a8.length ≤ 1000000000) <|
 F10.l5 N N r50 r51 a2 a3 a4 a5 [] [] a8 a8 (a8.length : Int) 0 fun z52 z53 _ _ _ _ _ _ z60 z61 _ _ _ =>
 F22.C N z52 z53 3 fun r65 r66 r67 =>
 bl r65 (k0 z60 z61 r66 r67) <|
 F23.C N r66 r67 (z60.length : Int) fun r68 r69 r70 =>
 ck (0 ≤ r68) <|
 ge (z60[r68.toNat]?) fun _ =>
 ge (z60[r68.toNat]?) fun x72 =>
 F24.C N r69 r70 (-2) 2 fun r73 r74 r75 =>
 ck (0 ≤ r68) <|
 ge (z60[r68.toNat]?) fun _ =>
 ge (z60[r68.toNat]?) fun _ =>
 ck (0 ≤ r68) <|
 ge (z61[r68.toNat]?) fun _ =>
 ge (z61[r68.toNat]?) fun x79 =>
 F24.C N r74 r75 (-2) 2 fun r80 r81 r82 =>
 ck (0 ≤ r68) <|
 ge (z61[r68.toNat]?) fun _ =>
 ge (z61[r68.toNat]?) fun _ =>
 k0 (z60.set r68.toNat (w (x72 + r73))) (z61.set r68.toNat (w (x79 + r80))) r81 r82
noncomputable def F10.fx : Fx := ⟨Try.prog, [8], [], [(0,[0,5,6,7,8]),(1,[0,5,7,8,9,10]),(2,[0,5,7,8,9,24]),(3,[0,5,8,9]),(4,[0,5,8,9,34,35]),(5,[0,5,8,9,34,35,36]),(6,[0,5,8,9,11,34,35]),(7,[0,5,8,9,11,34,35,45]),(8,[0,5,8,9,34,35]),(9,[0,5,8,9,34,35]),(10,[0,8,9,72]),(11,[0,8,9,12]),(12,[0,8,9,12]),(13,[0,8,9]),(14,[0,8])], 97, [0]⟩
noncomputable def F10.cs (N : Nat) : List (Ctr Try.prog) := [F29.X N, F23.X N, F22.X N, F24.X N]
abbrev F10.s5 : Sh := [(0, .one (.addr 0 0)), (1, .slot false [.lst .pin 5 (.int .u8), .i]), (10, .one (.addr 5 0)), (11, .slot false [.lst .frz 62 kd1, .lst .frz 71 kd8, .lst .frz 100 kd11, .lst .frz 55 kd13]), (16, .one (.addr 8 0)), (17, .slot false [.lst .own 3 .i, .lst .own 3 .i]), (18, .one (.addr 9 0)), (19, .slot false [.lst .own 3 .i, .lst .own 3 .i]), (68, .one .i), (70, .one .i)]
abbrev F10.e5_0 : Sh := [(0, .one (.addr 0 0)), (1, .slot false [.lst .pin 5 (.int .u8), .i]), (10, .one (.addr 5 0)), (11, .slot false [.lst .frz 62 kd1, .lst .frz 71 kd8, .lst .frz 100 kd11, .lst .frz 55 kd13]), (16, .one (.addr 8 0)), (17, .slot false [.lst .own 3 .i, .lst .own 3 .i]), (18, .one (.addr 9 0)), (19, .slot false [.lst .own 3 .i, .lst .own 3 .i]), (68, .one .i), (70, .one .i), (72, .one .bool)]
noncomputable def F10.X5 (N : Nat) : LpC Try.prog F10.fx := mkL (F10.cs N) [] ((loopsOf (bodyOf Try.f10)).getD 0 .skip) 5 [0,5,8,9,34,35] (by kernel_rfl) (by kernel_rfl) (by kernel_rfl) F10.s5 (fun n x k => F10.l5 N n x.1 x.2.1 x.2.2.1 x.2.2.2.1 x.2.2.2.2.1 x.2.2.2.2.2.1 x.2.2.2.2.2.2.1 x.2.2.2.2.2.2.2.1 x.2.2.2.2.2.2.2.2.1 x.2.2.2.2.2.2.2.2.2.1 x.2.2.2.2.2.2.2.2.2.2.1 x.2.2.2.2.2.2.2.2.2.2.2.1 (fun r0 r1 r2 r3 r4 r5 r6 r7 r8 r9 r10 r11 r12 => k (.exit 0) (Sh.mk F10.e5_0 (r0, r1, r2, r3, r4, r5, r6, r7, r8, r9, r10, r11, r12, ())))) (fun _ _ => rfl) (fun _ _ _ => by kernel_rfl) N
noncomputable def F10.C {β : Type} (N : Nat) := (Sealed fun β => @F10.K β).1 β N
theorem F10.C_eq {β : Type} (N : Nat) : @F10.C β N = @F10.K β N := congrFun (congrFun (Sealed fun β => @F10.K β).2 β) N
noncomputable def F10.X (N : Nat) : Ctr Try.prog := mkF 10 Try.f10 F10.fx (F10.cs N) [F10.X5 N] F10.i (fun x k => F10.C N x.1 x.2.1 x.2.2.1 x.2.2.2.1 x.2.2.2.2.1 x.2.2.2.2.2.1 x.2.2.2.2.2.2.1 x.2.2.2.2.2.2.2.1 x.2.2.2.2.2.2.2.2.1 x.2.2.2.2.2.2.2.2.2.1 (fun r0 r1 r2 r3 => k (Sh.mk F10.o0 (r0, r1, r2, r3, ())))) (by intros; rw [F10.C_eq]; kernel_rfl) (by kernel_rfl) (by kernel_rfl) (by kernel_rfl) (by kernel_rfl) rfl (by kernel_rfl) rfl (by kernel_rfl) (by kernel_rfl) (by kernel_rfl) (.dead _ 10) rfl
end Go.Vi.B
/- The bounds that the laws of chapter 11 draw. -/
namespace Go.Vi.A
/-- A list of bounds, not too wide. -/
structure BdOk (M : Int) (pl : List Pl) (ps : List Int) : Prop where
  len : ps.length = pl.length
  rng : ∀ x ∈ ps, -M ≤ x ∧ x ≤ M
theorem BdOk.set {M M' : Int} (hM : M ≤ M') {pl : List Pl} {ps : List Int} (h : BdOk M pl ps) (i : Nat) {x : Int} (h0 : -M' ≤ x) (h1 : x ≤ M') : BdOk M' pl (ps.set i x) :=
  ⟨by rw [List.length_set]; exact h.len, fun y hy => by
    rcases List.mem_or_eq_of_mem_set hy with g | g
    · have := h.rng y g; omega
    · subst g; exact ⟨h0, h1⟩⟩
theorem BdOk.wide {M M' : Int} (hM : M ≤ M') {pl : List Pl} {ps : List Int} (h : BdOk M pl ps) : BdOk M' pl ps := ⟨h.len, fun y hy => by have := h.rng y hy; omega⟩
theorem BdOk.get {M : Int} {pl : List Pl} {ps : List Int} (h : BdOk M pl ps) {i : Int} (h0 : 0 ≤ i) (h1 : i < (pl.length : Int)) : ∃ x, ps[i.toNat]? = some x ∧ -M ≤ x ∧ x ≤ M := by
  obtain ⟨x, hx⟩ := geti (xs := ps) h0 (by have := h.len; omega)
  exact ⟨x, hx, h.rng x (List.mem_of_getElem? hx)⟩
end Go.Vi.A
namespace Go.Vi.B
open Go.Proofs Go.Vi.A
set_option linter.unusedVariables false
variable {N : Nat} (hN : 1000 ≤ N) {β : Type}
theorem bounds_jog {M : Int} (M0 : 0 ≤ M) (M1 : M ≤ 1000000000000000) {pl : List Pl} (np : 1 ≤ pl.length) {lo hi : List Int} (hl : BdOk M pl lo) (hh : BdOk M pl hi) {l : List Int} {a : Int} (hc : Cod l a) :
    ∃ lo' hi' a', BdOk (M + 2) pl lo' ∧ BdOk (M + 2) pl hi' ∧ Cod l a' ∧ ∀ k : List Int → List Int → List Int → Int → Option β,
    (F22.C N l a 3 fun r29 r30 r31 =>
      bl r29 (k lo hi r30 r31) <|
      F23.C N r30 r31 (lo.length : Int) fun r32 r33 r34 =>
      ck (0 ≤ r32) <|
      ge (lo[r32.toNat]?) fun _ =>
      ge (lo[r32.toNat]?) fun x36 =>
      F24.C N r33 r34 (-2) 2 fun r37 r38 r39 =>
      ck (0 ≤ r32) <|
      ge (lo[r32.toNat]?) fun _ =>
      ge (lo[r32.toNat]?) fun _ =>
      ck (0 ≤ r32) <|
      ge (hi[r32.toNat]?) fun _ =>
      ge (hi[r32.toNat]?) fun x43 =>
      F24.C N r38 r39 (-2) 2 fun r44 r45 r46 =>
      ck (0 ≤ r32) <|
      ge (hi[r32.toNat]?) fun _ =>
      ge (hi[r32.toNat]?) fun _ =>
      k (lo.set r32.toNat (w (x36 + r37))) (hi.set r32.toNat (w (x43 + r44))) r45 r46) = k lo' hi' l a' := by
  obtain ⟨b, a1, c1, e1⟩ := draw_One (β := β) (N := N) hc 3
  cases b with
  | false => exact ⟨lo, hi, a1, hl.wide (by omega), hh.wide (by omega), c1, fun k => by rw [e1]; rfl⟩
  | true =>
    obtain ⟨r, a2, c2, n2, e2⟩ := draw_Next (β := β) (N := N) c1 (lo.length : Int)
    have hlen := hl.len
    have r0 := n2.lo
    have r1 := n2.hi (by omega)
    obtain ⟨x, hx, x0, x1⟩ := hl.get (i := r) (by omega) (by omega)
    obtain ⟨y, hy, y0, y1⟩ := hh.get (i := r) (by omega) (by omega)
    obtain ⟨d, a3, c3, d0, d1, e3⟩ := draw_Range (β := β) (N := N) c2 (lo := -2) (hi := 2) (by omega) (by omega) (by omega)
    obtain ⟨d', a4, c4, d0', d1', e4⟩ := draw_Range (β := β) (N := N) c3 (lo := -2) (hi := 2) (by omega) (by omega) (by omega)
    refine ⟨lo.set r.toNat (x + d), hi.set r.toNat (y + d'), a4, hl.set (by omega) _ (by omega) (by omega), hh.set (by omega) _ (by omega) (by omega), c4, fun k => ?_⟩
    rw [e1]
    simp only [res, e2, hx, hy, ge_some, r0, if_true, e3, e4, w_id (x := x + d) (by omega) (by omega), w_id (x := y + d') (by omega) (by omega)]
include hN in
theorem bounds_spread {M : Int} (M0 : 0 ≤ M) (M1 : M ≤ 900000000000000) {pl : List Pl} (hn : pl.length ≤ 64) (ro : List Ro) (fa : List Fa) (dr : List Do) {ps : List Int} (hp : BdOk M pl ps) {l : List Int} {a : Int} (hc : Cod l a) :
    ∃ lo hi a', BdOk (M + 9000) pl lo ∧ BdOk (M + 9000) pl hi ∧ Cod l a' ∧ ∀ K : List Int → Int → List Pl → List Ro → List Fa → List Do → List Int → List Int → List Int → List Int → Int → Int → Bool → Option β,
    F10.l5 N N l a pl ro fa dr [] [] ps ps (ps.length : Int) 0 K = K l a' pl ro fa dr [] [] lo hi (ps.length : Int) (ps.length : Int) false := by
  have hlen := hp.len
  obtain ⟨s, ⟨g1, g2, g3, g4, g5⟩, e⟩ := lfor (len := ps.length) (L := fun n j (s : Int × List Int × List Int) => fun K : List Int → Int → List Pl → List Ro → List Fa → List Do → List Int → List Int → List Int → List Int → Int → Int → Bool → Option β => F10.l5 N n l s.1 pl ro fa dr [] [] s.2.1 s.2.2 (ps.length : Int) (j : Int) K)
    (k := fun s => fun K => K l s.1 pl ro fa dr [] [] s.2.1 s.2.2 (ps.length : Int) (ps.length : Int) false)
    (fun j s => Cod l s.1 ∧ BdOk (M + 9000) pl s.2.1 ∧ BdOk (M + 9000) pl s.2.2 ∧ (∀ i, j ≤ i → s.2.1[i]? = ps[i]?) ∧ ∀ i, j ≤ i → s.2.2[i]? = ps[i]?)
    (fun n s hs => funext fun K => by simp only [F10.l5, res, Int.lt_irrefl, decide_false])
    (fun j s hj hs => by
      obtain ⟨a, lo, hi⟩ := s
      obtain ⟨hc, hl, hh, q1, q2⟩ := hs
      simp only at hc hl hh q1 q2
      obtain ⟨p, hp'⟩ := getl (xs := pl) (i := j) (by omega)
      obtain ⟨x, hx⟩ := getl hj
      obtain ⟨x0, x1⟩ := hp.rng x (List.mem_of_getElem? hx)
      have h1 := (q1 j (Nat.le_refl _)).trans hx
      have h2 := (q2 j (Nat.le_refl _)).trans hx
      cases ht : p.2 with
      | true =>
        refine ⟨(a, lo, hi), ⟨hc, hl, hh, fun i hi => q1 i (by omega), fun i hi => q2 i (by omega)⟩, fun n => funext fun K => ?_⟩
        simp only [F10.l5, res, Int.toNat_natCast, hp', ge_some, ht, w_succ (show j < 4000000000 by omega)]
        rw [if_pos (by omega), if_pos (by omega)]
      | false =>
        obtain ⟨d, a2, c2, n2, e2⟩ := draw_Next (β := β) (N := N) hc 9000
        have d0 := n2.lo
        have d1 := n2.hi (by omega)
        obtain ⟨d', a3, c3, n3, e3⟩ := draw_Next (β := β) (N := N) c2 9000
        have d0' := n3.lo
        have d1' := n3.hi (by omega)
        refine ⟨(a3, lo.set j (x - d), hi.set j (x + d')), ⟨c3, hl.set (Int.le_refl _) _ (by omega) (by omega), hh.set (Int.le_refl _) _ (by omega) (by omega), fun i hi => ?_, fun i hi => ?_⟩, fun n => funext fun K => ?_⟩
        · simp only; rw [List.getElem?_set_ne (by omega)]; exact q1 i (by omega)
        · simp only; rw [List.getElem?_set_ne (by omega)]; exact q2 i (by omega)
        · simp only [F10.l5, res, Int.toNat_natCast, hp', ge_some, ht, w_succ (show j < 4000000000 by omega), h1, h2, e2, e3, w_id (x := x - d) (by omega) (by omega), w_id (x := x + d') (by omega) (by omega)]
          rw [if_pos (by omega), if_pos (by omega)]
          first | rfl | rw [if_pos (by omega)]) 0 (a, ps, ps) N ⟨hc, hp.wide (by omega), hp.wide (by omega), fun _ _ => rfl, fun _ _ => rfl⟩ (by omega) (by omega)
  obtain ⟨a', lo, hi⟩ := s
  exact ⟨lo, hi, a', g2, g3, g1, fun K => congrFun e K⟩
include hN in
theorem law11_bounds {pl : List Pl} {ro : List Ro} {fa : List Fa} {dr : List Do} {sf sd xp xq : List Int} (m : MadeOk pl ro fa dr sf sd xp xq) {l : List Int} {a : Int} (hc : Cod l a) :
    ∃ lo hi a', BdOk 80000000000000 pl lo ∧ BdOk 80000000000000 pl hi ∧ Cod l a' ∧ ∀ k : List Int → List Int → List Int → Int → Option β, F10.C N l a pl ro fa dr sf sd xp xq k = k lo hi l a' := by
  have np := m.npl1
  have hn := m.npl
  have hlen := (StOk.of m.st).lp
  have hx : BdOk 4000 pl xp := ⟨hlen, m.xpb⟩
  have spread : ∀ {a : Int}, Cod l a → ∃ lo hi a', BdOk 80000000000000 pl lo ∧ BdOk 80000000000000 pl hi ∧ Cod l a' ∧ ∀ k : List Int → List Int → List Int → Int → Option β,
      (F10.l5 N N l a pl ro fa dr [] [] xp xp (xp.length : Int) 0 fun z16 z17 _ _ _ _ _ _ z24 z25 _ _ _ =>
        F22.C N z16 z17 3 fun r29 r30 r31 =>
        bl r29 (k z24 z25 r30 r31) <|
        F23.C N r30 r31 (z24.length : Int) fun r32 r33 r34 =>
        ck (0 ≤ r32) <|
        ge (z24[r32.toNat]?) fun _ =>
        ge (z24[r32.toNat]?) fun x36 =>
        F24.C N r33 r34 (-2) 2 fun r37 r38 r39 =>
        ck (0 ≤ r32) <|
        ge (z24[r32.toNat]?) fun _ =>
        ge (z24[r32.toNat]?) fun _ =>
        ck (0 ≤ r32) <|
        ge (z25[r32.toNat]?) fun _ =>
        ge (z25[r32.toNat]?) fun x43 =>
        F24.C N r38 r39 (-2) 2 fun r44 r45 r46 =>
        ck (0 ≤ r32) <|
        ge (z25[r32.toNat]?) fun _ =>
        ge (z25[r32.toNat]?) fun _ =>
        k (z24.set r32.toNat (w (x36 + r37))) (z25.set r32.toNat (w (x43 + r44))) r45 r46) = k lo hi l a' := fun {a} hc => by
    obtain ⟨lo, hi, a1, h1, h2, c1, e1⟩ := bounds_spread (β := β) hN (M := 4000) (by omega) (by omega) (by omega) ro fa dr hx hc
    obtain ⟨lo2, hi2, a2, g1, g2, c2, e2⟩ := bounds_jog (β := β) (N := N) (M := 4000 + 9000) (by omega) (by omega) np h1 h2 c1
    exact ⟨lo2, hi2, a2, g1.wide (by omega), g2.wide (by omega), c2, fun k => (e1 _).trans (e2 k)⟩
  obtain ⟨ok, xs, ys, hb, es⟩ := draw_Solved (β := β) hN m.air m.fit
  have q : 0 + xp.length ≤ 1000000000 := by omega
  cases ok with
  | false =>
    obtain ⟨lo, hi, a', g1, g2, c1, e⟩ := spread hc
    refine ⟨lo, hi, a', g1, g2, c1, fun k => ?_⟩
    rw [F10.C_eq]; unfold F10.K
    rw [es]
    simp only [res] at e
    simp only [res]
    rw [if_pos (by omega), ← e k]
    first | rfl | rw [if_pos (by omega)]
  | true =>
    obtain ⟨b, a1, c1, e1⟩ := draw_One (β := β) (N := N) hc 4
    cases b with
    | false =>
      obtain ⟨p1, p2⟩ := hb rfl
      obtain ⟨lo, hi, a', g1, g2, c2, e⟩ := bounds_jog (β := β) (N := N) (M := 70368744177664) (by omega) (by omega) np (lo := xs) (hi := ys) ⟨p1.len, p1.rng⟩ ⟨p2.len, p2.rng⟩ c1
      refine ⟨lo, hi, a', g1.wide (by omega), g2.wide (by omega), c2, fun k => ?_⟩
      rw [F10.C_eq]; unfold F10.K
      rw [es]
      simp only [res] at e
      simp only [res, e1]
      exact e k
    | true =>
      obtain ⟨lo, hi, a', g1, g2, c2, e⟩ := spread c1
      refine ⟨lo, hi, a', g1, g2, c2, fun k => ?_⟩
      rw [F10.C_eq]; unfold F10.K
      rw [es]
      simp only [res] at e
      simp only [res, e1]
      rw [if_pos (by omega), ← e k]
      first | rfl | rw [if_pos (by omega)]
end Go.Vi.B
