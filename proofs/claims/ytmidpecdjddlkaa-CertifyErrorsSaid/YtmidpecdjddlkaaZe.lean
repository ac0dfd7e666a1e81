/- Lemmas for the proofs of this seat's statements, part 5; each holds without conditions beyond its own premises. -/
import Derived.Test.YtmidpecdjddlkaaZd
/- Which places are cut off from the surface. -/
namespace Go.Vi.A
theorem shut_air (pl : List Pl) (ro : List Ro) : Shut ro (airB pl ro) := fun r hr hc => by
  cases a : airB pl ro r.1.toNat with
  | true => exact (airB_true.2 (.out hr hc (airB_true.1 a))).symm
  | false =>
    cases b : airB pl ro r.2.1.toNat with
    | false => rfl
    | true => exact absurd (airB_true.2 (.back hr hc (airB_true.1 b))) (by rw [a]; decide)
/-- The labels that a surface place among the first has. -/
def opn (pl : List Pl) (lab : Nat → Int) (j : Nat) (l : Nat) : Bool := (List.range j).any fun i => topB pl i && decide ((lab i).toNat = l)
theorem opn_succ (pl : List Pl) (lab : Nat → Int) (j l : Nat) : opn pl lab (j + 1) l = (opn pl lab j l || (topB pl j && decide ((lab j).toNat = l))) := by
  unfold opn; rw [List.range_succ, List.any_append]; simp
theorem opn_air {pl : List Pl} {ro : List Ro} (hr : RdOk pl.length ro) {lab : Nat → Int} {c : Int} (h0 : ∀ i, i < pl.length → 0 ≤ lab i ∧ lab i < c) (h1 : ∀ r ∈ ro, r.2.2.2.2.2.1 = false → lab r.1.toNat = lab r.2.1.toNat) (h2 : ∀ i j, i < pl.length → lab i = lab j → airB pl ro i = airB pl ro j) {i : Nat} (hi : i < pl.length) :
    opn pl lab pl.length (lab i).toNat = airB pl ro i := by
  have := air_of_shut (pl := pl) (ro := ro) (f := fun i => decide (i < pl.length) && opn pl lab pl.length (lab i).toNat) (fun i p hp ht => by
    have hl := (List.getElem?_eq_some_iff.1 hp).1
    simp only [hl, decide_true, Bool.true_and]
    unfold opn
    rw [List.any_eq_true]
    exact ⟨i, List.mem_range.2 hl, by unfold topB; rw [getD_eq hp, ht]; simp⟩) (fun i hi => by
    rw [Bool.and_eq_true, decide_eq_true_eq] at hi
    obtain ⟨hl, ho⟩ := hi
    unfold opn at ho
    rw [List.any_eq_true] at ho
    obtain ⟨s, hs, hh⟩ := ho
    rw [List.mem_range] at hs
    rw [Bool.and_eq_true, decide_eq_true_eq] at hh
    obtain ⟨ht, he⟩ := hh
    have a1 := h0 i hl
    have a2 := h0 s hs
    have e := h2 s i hs (by omega)
    obtain ⟨p, hp⟩ := getl hs
    unfold topB at ht; rw [getD_eq hp] at ht
    exact airB_true.1 (e ▸ airB_true.2 (.top hp ht))) (fun r hr' hc => by
    obtain ⟨⟨f0, f1⟩, t0, t1⟩ := hr r hr'
    simp only [h1 r hr' hc, show r.1.toNat < pl.length by omega, show r.2.1.toNat < pl.length by omega]) i
  simp only [hi, decide_true, Bool.true_and] at this
  exact this
/-- The places that are cut off, in their order. -/
noncomputable def cutL (pl : List Pl) (ro : List Ro) (n : Nat) : List Int := ((List.range n).filter fun i => !airB pl ro i).map fun i => ((i : Nat) : Int)
theorem cutL_succ (pl : List Pl) (ro : List Ro) (n : Nat) : cutL pl ro (n + 1) = cutL pl ro n ++ if airB pl ro n = true then [] else [(n : Int)] := by
  unfold cutL
  rw [List.range_succ, List.filter_append, List.map_append]
  cases h : airB pl ro n <;> simp [h]
theorem cutL_len (pl : List Pl) (ro : List Ro) (n : Nat) : (cutL pl ro n).length ≤ n := by
  unfold cutL; rw [List.length_map]; exact Nat.le_trans (List.length_filter_le _ _) (by simp)
theorem cutL_mem {pl : List Pl} {ro : List Ro} {n : Nat} {i : Nat} : (i : Int) ∈ cutL pl ro n ↔ i < n ∧ airB pl ro i = false := by
  unfold cutL
  rw [List.mem_map]
  constructor
  · rintro ⟨k, hk, e⟩
    rw [List.mem_filter, List.mem_range, Bool.not_eq_true'] at hk
    have : k = i := by omega
    subst this; exact hk
  · rintro ⟨a, b⟩
    exact ⟨i, by rw [List.mem_filter, List.mem_range, Bool.not_eq_true']; exact ⟨a, b⟩, rfl⟩
theorem cutL_rng {pl : List Pl} {ro : List Ro} {n : Nat} {x : Int} (h : x ∈ cutL pl ro n) : 0 ≤ x ∧ x < (n : Int) := by
  unfold cutL at h
  rw [List.mem_map] at h
  obtain ⟨k, hk, e⟩ := h
  rw [List.mem_filter, List.mem_range] at hk
  omega
end Go.Vi.A
namespace Go.Vi.B
open Go.Proofs Go.Vi.A
set_option linter.unusedVariables false
variable {N : Nat} (hN : 1000 ≤ N) {β : Type}
include hN in
theorem plan_CutOff {pl : List Pl} {ro : List Ro} {fa : List Fa} {dr : List Do} (h0 : airE pl ro fa dr = 0) (k : List Int → Option β) : F58.C N pl ro k = k (cutL pl ro pl.length) := by
  have h := AirOk.of h0
  have hn := h.npl
  have hm := h.nro
  have hr := h.rd
  have hz : mineE pl ro = 0 := by unfold airE at h0; exact (thn_zero.1 h0).1
  obtain ⟨c, lab, c0, c1, g1, g2, g3, g4⟩ := plan_part (β := β) hN (shut_air pl ro) hn hm hr (fun r hr' => (h.road r hr').ne)
  rw [F58.C_eq]; unfold F58.K
  rw [F70.C_eq]; unfold F70.K
  rw [plan_Check hN]
  simp only [res, hz, decide_true, g4, tab_rep]
  rw [if_pos (by omega), if_pos (by omega)]
  obtain ⟨s, hs, e⟩ := lfor (len := pl.length) (L := fun n' j (s : List Bool) => F58.l6 N n' pl ro [] (tab pl.length lab) s pl (pl.length : Int) (j : Int) fun z6 _ z8 z9 z10 _ _ _ _ => F58.l13 N N z8 z9 z10 [] (z6.length : Int) 0 fun _ _ _ z18 _ _ _ => k z18)
    (k := fun s => F58.l13 N N [] (tab pl.length lab) s [] (pl.length : Int) 0 fun _ _ _ z18 _ _ _ => k z18)
    (fun j s => s = tab c.toNat fun l => opn pl lab j l)
    (fun n' s hs => by simp only [F58.l6, res, Int.lt_irrefl, if_false])
    (fun j s hj hs => by
      obtain ⟨p, hp⟩ := getl hj
      obtain ⟨l0, l1⟩ := g1 j hj
      refine ⟨_, rfl, fun n' => ?_⟩
      subst hs
      have et : topB pl j = p.2 := by unfold topB; rw [getD_eq hp]
      simp only [F58.l6, res, Int.toNat_natCast, hp, ge_some, w_succ (show j < 4000000000 by omega), opn_succ, et]
      rw [if_pos (by omega), if_pos (by omega)]
      cases ht : p.2 with
      | false => simp only [res, Bool.false_and, Bool.or_false]
      | true =>
        simp only [res, tab_get hj, ge_some, l0, if_true, tab_get (show (lab j).toNat < c.toNat by omega)]
        rw [if_pos (by omega), tab_set (fun l => opn pl lab j l || (true && decide ((lab j).toNat = l))) (by simp) (fun k hk hne => by rw [decide_eq_false (fun e => hne e.symm)]; simp)]) 0 (tab c.toNat fun _ => false) N (tab_congr fun i _ => by simp [opn]) (by omega) (by omega)
  refine e.trans ?_
  subst hs
  obtain ⟨s, hs, e⟩ := lfor (len := pl.length) (L := fun n' j (s : List Int) => F58.l13 N n' [] (tab pl.length lab) (tab c.toNat fun l => opn pl lab pl.length l) s (pl.length : Int) (j : Int) fun _ _ _ z18 _ _ _ => k z18)
    (k := k) (fun j s => s = cutL pl ro j)
    (fun n' s hs => by simp only [F58.l13, res, Int.lt_irrefl, if_false])
    (fun j s hj hs => by
      obtain ⟨l0, l1⟩ := g1 j hj
      refine ⟨_, rfl, fun n' => ?_⟩
      subst hs
      have hl := cutL_len pl ro j
      simp only [F58.l13, res, Int.toNat_natCast, ge_some, w_succ (show j < 4000000000 by omega), tab_get hj, l0, if_true, tab_get (show (lab j).toNat < c.toNat by omega), opn_air hr g1 g2 g3 hj, cutL_succ]
      rw [if_pos (by omega), if_pos (by omega)]
      cases airB pl ro j with
      | true => simp only [res, if_true, List.append_nil]
      | false => simp only [res, Bool.false_eq_true, if_false]; rw [if_pos (by omega)]) 0 [] N (by simp [cutL]) (by omega) (by omega)
  refine e.trans ?_
  rw [hs]
include hN in
theorem certify_Lost {pl : List Pl} {ro : List Ro} {fa : List Fa} {dr : List Do} (h0 : airE pl ro fa dr = 0) (k : List Bool → Option β) : F32.C N pl ro k = k (tab pl.length fun i => !airB pl ro i) := by
  have h := AirOk.of h0
  have hn := h.npl
  rw [F32.C_eq]; unfold F32.K
  simp only [res, tab_rep, Int.toNat_natCast, plan_CutOff hN h0]
  rw [if_pos (show 0 ≤ (pl.length : Int) by omega), if_pos (show (pl.length : Int) ≤ 1000000000 by omega)]
  have hl := cutL_len pl ro pl.length
  obtain ⟨s, hs, e⟩ := lfor (len := (cutL pl ro pl.length).length) (L := fun n' j (s : List Bool) => F32.l3 N n' [] s (cutL pl ro pl.length) ((cutL pl ro pl.length).length : Int) (j : Int) fun _ z6 _ _ _ _ => k z6) (k := k)
    (fun j s => s = tab pl.length fun i => decide ((i : Int) ∈ (cutL pl ro pl.length).take j))
    (fun n' s hs => by simp only [F32.l3, res, Int.lt_irrefl, if_false])
    (fun j s hj hs => by
      obtain ⟨x, hx⟩ := getl hj
      obtain ⟨x0, x1⟩ := cutL_rng (List.mem_of_getElem? hx)
      refine ⟨_, rfl, fun n' => ?_⟩
      subst hs
      simp only [F32.l3, res, Int.toNat_natCast, hx, ge_some, w_succ (show j < 4000000000 by omega), tab_get (show x.toNat < pl.length by omega)]
      rw [if_pos (by omega), if_pos (by omega), if_pos (by omega), tab_set (fun i => decide ((i : Int) ∈ (cutL pl ro pl.length).take (j + 1))) (by
        rw [take_snoc hx, decide_eq_true_eq, Int.toNat_of_nonneg x0]; simp) (fun k hk hne => by
        rw [take_snoc hx]
        refine decide_eq_decide.2 ?_
        rw [List.mem_append, List.mem_singleton]
        constructor
        · rintro (a | a)
          · exact a
          · omega
        · exact .inl)]) 0 (tab pl.length fun _ => false) N (tab_congr fun i _ => by simp) (by omega) (by omega)
  refine e.trans ?_
  rw [hs]
  refine congrArg k (tab_congr fun i hi => ?_)
  rw [List.take_of_length_le (Nat.le_refl _)]
  cases a : airB pl ro i with
  | true => exact decide_eq_false fun g => by rw [(cutL_mem.1 g).2] at a; cases a
  | false => exact decide_eq_true (cutL_mem.2 ⟨hi, a⟩)
end Go.Vi.B
/- minecontrol/certify.Check -/
namespace Go.Vi.B
open Go.Proofs
set_option linter.unusedVariables false
set_option maxRecDepth 100000
abbrev F12.i : Sh := [(0, .agg [.lst .frz 62 kd1, .lst .frz 71 kd8, .lst .frz 100 kd11, .lst .frz 55 kd13]), (2, .agg [.lst .frz 3 .i, .lst .frz 3 .i]), (4, .agg [.lst .frz 3 .i, .lst .frz 3 .i])]
abbrev F12.o0 : Sh := [(0, .one .i)]
noncomputable def F12.l12 {β : Type} (N : Nat) : Nat → (List Pl) → (List Ro) → (List Fa) → (List Do) → (List Int) → (List Int) → (List Int) → (List Int) → Int → Int → Int → (List Int) → Int → Int → (Int → Option β) → (List Pl → List Ro → List Fa → List Do → List Int → List Int → List Int → List Int → Int → Int → Int → List Int → Int → Int → Bool → Option β) → Option β
 | 0, _, _, _, _, _, _, _, _, _, _, _, _, _, _, _, _ => none
 | n + 1, v0, v1, v2, v3, v4, v5, v6, v7, v8, v9, v10, v11, v12, v13, k0, k1 =>
  bl (v13 < v12) (k1 v0 v1 v2 v3 v4 v5 v6 v7 v8 v9 v10 v11 v12 v13 (decide (v13 < v12))) <|
  ck (0 ≤ v13) <|
  ge (v11[v13.toNat]?) fun _ =>
  ge (v11[v13.toNat]?) fun x2 =>
  br (x2 < (-70368744177664)) (k0 1) <|
  br (x2 > 70368744177664) (k0 1) <|
  F12.l12 N n v0 v1 v2 v3 v4 v5 v6 v7 v8 v9 v10 v11 v12 (w (v13 + 1)) k0 k1
noncomputable def F12.l9 {β : Type} (N : Nat) : Nat → (List Pl) → (List Ro) → (List Fa) → (List Do) → (List Int) → (List Int) → (List Int) → (List Int) → Int → Int → Int → (Int → Option β) → (List Pl → List Ro → List Fa → List Do → List Int → List Int → List Int → List Int → Int → Int → Int → Bool → Option β) → Option β
 | 0, _, _, _, _, _, _, _, _, _, _, _, _, _ => none
 | n + 1, v0, v1, v2, v3, v4, v5, v6, v7, v8, v9, v10, k0, k1 =>
  bl (v10 < v9) (k1 v0 v1 v2 v3 v4 v5 v6 v7 v8 v9 v10 (decide (v10 < v9))) <|
  ck (0 ≤ v10) <|
  ge (v6[v10.toNat]?) fun x1 =>
  ck (0 ≤ v10) <|
  ge (v7[v10.toNat]?) fun x2 =>
  F12.l12 N N v0 v1 v2 v3 v4 v5 v6 v7 v8 v9 v10 [x1, x2] ([x1, x2].length : Int) 0 (fun z3 => k0 z3) fun z4 z5 z6 z7 z8 z9 z10 z11 z12 z13 z14 _ _ _ _ =>
  F12.l9 N n z4 z5 z6 z7 z8 z9 z10 z11 z12 z13 (w (z14 + 1)) k0 k1
noncomputable def F12.l21 {β : Type} (N : Nat) : Nat → (List Int) → (List Int) → Int → (List Bool) → (List (Ro × (Int × (List (Fa × Int))))) → (List (Option (List Int))) → (List Pl) → Int → Int → (Int → Option β) → (List Int → List Int → Int → List Bool → (List (Ro × (Int × (List (Fa × Int))))) → (List (Option (List Int))) → List Pl → Int → Int → Bool → Option β) → Option β
 | 0, _, _, _, _, _, _, _, _, _, _, _ => none
 | n + 1, v0, v1, v2, v3, v4, v5, v6, v7, v8, k0, k1 =>
  bl (v8 < v7) (k1 v0 v1 v2 v3 v4 v5 v6 v7 v8 (decide (v8 < v7))) <|
  ck (0 ≤ v8) <|
  ge (v6[v8.toNat]?) fun x1 =>
  br (x1.2) (
   ck (0 ≤ v8) <|
   ge (v0[v8.toNat]?) fun x2 =>
   br (x2 != 0) (k0 12) <|
   ck (0 ≤ v8) <|
   ge (v1[v8.toNat]?) fun x3 =>
   br (x3 != 0) (k0 12) <|
   F12.l21 N n v0 v1 v2 v3 v4 v5 v6 v7 (w (v8 + 1)) k0 k1) <|
  ck (0 ≤ v8) <|
  ge (v3[v8.toNat]?) fun _ =>
  ge (v3[v8.toNat]?) fun x5 =>
  bl x5 (
   F34.C N v4 v5 v1 v8 fun r8 =>
   br (r8 < 0) (k0 12) <|
   F35.C N v4 v5 v0 v8 fun r9 =>
   br (r9 > 0) (k0 12) <|
   F12.l21 N n v0 v1 v2 v3 v4 v5 v6 v7 (w (v8 + 1)) k0 k1) <|
  ck (0 ≤ v8) <|
  ge (v0[v8.toNat]?) fun x6 =>
  br (x6 != 0) (k0 12) <|
  ck (0 ≤ v8) <|
  ge (v1[v8.toNat]?) fun x7 =>
  br (x7 != 0) (k0 12) <|
  F12.l21 N n v0 v1 v2 v3 v4 v5 v6 v7 (w (v8 + 1)) k0 k1
noncomputable def F12.K {β : Type} (N : Nat) (a0 : List Pl) (a1 : List Ro) (a2 : List Fa) (a3 : List Do) (a4 a5 a6 a7 : List Int) (k0 : Int → Option β) : Option β :=
 F30.C N a0 a1 a2 a3 fun r1 =>
 br (r1 != 0) (k0 r1) <|
 F31.C N a0 a1 a2 a3 a4 a5 fun r2 =>
 br (!r2) (k0 21) <|
 br ((a6.length : Int) != (a0.length : Int)) (k0 11) <|
 br ((a7.length : Int) != (a0.length : Int)) (k0 11) <|
 F12.l9 N N a0 a1 a2 a3 a4 a5 a6 a7 0 (a6.length : Int) 0 (fun z19 => k0 z19) fun z20 z21 z22 z23 z24 z25 z26 z27 z28 _ _ _ =>
 F32.C N z20 z21 fun r32 =>
 F33.C N z20 z21 z22 z23 z24 z25 fun r33 r34 =>
 F12.l21 N N z26 z27 z28 r32 r33 r34 z20 (z20.length : Int) 0 (fun z35 => k0 z35) fun _ _ _ _ _ _ _ _ _ _ =>
 k0 0
noncomputable def F12.fx : Fx := ⟨Try.prog, [], [], [(0,[3,4,5,6]),(1,[3,4,5,6,7]),(2,[3,4,5,6,7,18]),(3,[6]),(4,[3,4,5,6,23]),(5,[6]),(6,[3,4,5,6,41]),(7,[6]),(8,[3,4,5,6,44,45]),(9,[3,4,5,6,44,45,46]),(10,[3,4,5,6,8,44,45]),(11,[3,4,5,6,44,45,58,59,60]),(12,[3,4,5,6,44,45,58,59,60,61]),(13,[3,4,5,6,10,44,45,58,59,60]),(14,[3,4,5,6,44,45,58,59,60,69]),(15,[6]),(16,[3,4,5,6,44,45,58,59,60]),(17,[3,4,5,6,44,45]),(18,[3,4,5,6,11]),(19,[3,5,6,11,12]),(20,[5,6,11,12,80,81,82]),(21,[5,6,11,12,80,81,82,83]),(22,[5,6,11,12,13,14,80,81,82]),(23,[5,6,11,12,13,80,81,82,94]),(24,[5,6,11,12,80,81,82,108]),(25,[6]),(26,[5,6,11,12,80,81,82,122]),(27,[6]),(28,[5,6,11,12,80,81,82]),(29,[6])], 124, []⟩
noncomputable def F12.cs (N : Nat) : List (Ctr Try.prog) := [F30.X N, F31.X N, F32.X N, F33.X N, F34.X N, F35.X N]
abbrev F12.s12 : Sh := [(6, .one (.addr 3 0)), (7, .slot false [.lst .frz 62 kd1, .lst .frz 71 kd8, .lst .frz 100 kd11, .lst .frz 55 kd13]), (8, .one (.addr 4 0)), (9, .slot false [.lst .frz 3 .i, .lst .frz 3 .i]), (10, .one (.addr 5 0)), (11, .slot false [.lst .frz 3 .i, .lst .frz 3 .i]), (12, .one .i), (88, .one .i), (90, .one .i), (116, .one (.view 58 0)), (117, .slot true [.lst .own 3 .i]), (118, .one .i), (120, .one .i)]
abbrev F12.e12_0 : Sh := [(12, .one .i)]
abbrev F12.e12_1 : Sh := [(6, .one (.addr 3 0)), (7, .slot false [.lst .frz 62 kd1, .lst .frz 71 kd8, .lst .frz 100 kd11, .lst .frz 55 kd13]), (8, .one (.addr 4 0)), (9, .slot false [.lst .frz 3 .i, .lst .frz 3 .i]), (10, .one (.addr 5 0)), (11, .slot false [.lst .frz 3 .i, .lst .frz 3 .i]), (12, .one .i), (88, .one .i), (90, .one .i), (116, .one (.view 58 0)), (117, .slot true [.lst .own 3 .i]), (118, .one .i), (120, .one .i), (122, .one .bool)]
noncomputable def F12.X12 (N : Nat) : LpC Try.prog F12.fx := mkL (F12.cs N) [] ((loopsOf ((loopsOf (bodyOf Try.f12)).getD 0 .skip)).getD 0 .skip) 12 [3,4,5,6,44,45,58,59,60] (by kernel_rfl) (by kernel_rfl) (by kernel_rfl) F12.s12 (fun n x k => F12.l12 N n x.1 x.2.1 x.2.2.1 x.2.2.2.1 x.2.2.2.2.1 x.2.2.2.2.2.1 x.2.2.2.2.2.2.1 x.2.2.2.2.2.2.2.1 x.2.2.2.2.2.2.2.2.1 x.2.2.2.2.2.2.2.2.2.1 x.2.2.2.2.2.2.2.2.2.2.1 x.2.2.2.2.2.2.2.2.2.2.2.1 x.2.2.2.2.2.2.2.2.2.2.2.2.1 x.2.2.2.2.2.2.2.2.2.2.2.2.2.1 (fun r0 => k (.ret) (Sh.mk F12.e12_0 (r0, ()))) (fun r0 r1 r2 r3 r4 r5 r6 r7 r8 r9 r10 r11 r12 r13 r14 => k (.exit 2) (Sh.mk F12.e12_1 (r0, r1, r2, r3, r4, r5, r6, r7, r8, r9, r10, r11, r12, r13, r14, ())))) (fun _ _ => rfl) (fun _ _ _ => by kernel_rfl) N
abbrev F12.s9 : Sh := [(6, .one (.addr 3 0)), (7, .slot false [.lst .frz 62 kd1, .lst .frz 71 kd8, .lst .frz 100 kd11, .lst .frz 55 kd13]), (8, .one (.addr 4 0)), (9, .slot false [.lst .frz 3 .i, .lst .frz 3 .i]), (10, .one (.addr 5 0)), (11, .slot false [.lst .frz 3 .i, .lst .frz 3 .i]), (12, .one .i), (88, .one .i), (90, .one .i)]
abbrev F12.e9_0 : Sh := [(12, .one .i)]
abbrev F12.e9_1 : Sh := [(6, .one (.addr 3 0)), (7, .slot false [.lst .frz 62 kd1, .lst .frz 71 kd8, .lst .frz 100 kd11, .lst .frz 55 kd13]), (8, .one (.addr 4 0)), (9, .slot false [.lst .frz 3 .i, .lst .frz 3 .i]), (10, .one (.addr 5 0)), (11, .slot false [.lst .frz 3 .i, .lst .frz 3 .i]), (12, .one .i), (88, .one .i), (90, .one .i), (92, .one .bool)]
noncomputable def F12.X9 (N : Nat) : LpC Try.prog F12.fx := mkL (F12.cs N) [F12.X12 N] ((loopsOf (bodyOf Try.f12)).getD 0 .skip) 9 [3,4,5,6,44,45] (by kernel_rfl) (by kernel_rfl) (by kernel_rfl) F12.s9 (fun n x k => F12.l9 N n x.1 x.2.1 x.2.2.1 x.2.2.2.1 x.2.2.2.2.1 x.2.2.2.2.2.1 x.2.2.2.2.2.2.1 x.2.2.2.2.2.2.2.1 x.2.2.2.2.2.2.2.2.1 x.2.2.2.2.2.2.2.2.2.1 x.2.2.2.2.2.2.2.2.2.2.1 (fun r0 => k (.ret) (Sh.mk F12.e9_0 (r0, ()))) (fun r0 r1 r2 r3 r4 r5 r6 r7 r8 r9 r10 r11 => k (.exit 0) (Sh.mk F12.e9_1 (r0, r1, r2, r3, r4, r5, r6, r7, r8, r9, r10, r11, ())))) (fun _ _ => rfl) (fun _ _ _ => by kernel_rfl) N
abbrev F12.s21 : Sh := [(10, .one (.addr 5 0)), (11, .slot false [.lst .frz 3 .i, .lst .frz 3 .i]), (12, .one .i), (22, .one (.view 11 0)), (23, .slot true [.lst .own 4 .bool]), (24, .one (.addr 12 0)), (25, .slot false [.lst .own 91 kd16, .lst .own 23 (.ow 3 .i)]), (160, .one (.lst .frz 62 kd1)), (162, .one .i), (164, .one .i)]
abbrev F12.e21_0 : Sh := [(12, .one .i)]
abbrev F12.e21_1 : Sh := [(10, .one (.addr 5 0)), (11, .slot false [.lst .frz 3 .i, .lst .frz 3 .i]), (12, .one .i), (22, .one (.view 11 0)), (23, .slot true [.lst .own 4 .bool]), (24, .one (.addr 12 0)), (25, .slot false [.lst .own 91 kd16, .lst .own 23 (.ow 3 .i)]), (160, .one (.lst .frz 62 kd1)), (162, .one .i), (164, .one .i), (166, .one .bool)]
noncomputable def F12.X21 (N : Nat) : LpC Try.prog F12.fx := mkL (F12.cs N) [] ((loopsOf (bodyOf Try.f12)).getD 1 .skip) 21 [5,6,11,12,80,81,82] (by kernel_rfl) (by kernel_rfl) (by kernel_rfl) F12.s21 (fun n x k => F12.l21 N n x.1 x.2.1 x.2.2.1 x.2.2.2.1 x.2.2.2.2.1 x.2.2.2.2.2.1 x.2.2.2.2.2.2.1 x.2.2.2.2.2.2.2.1 x.2.2.2.2.2.2.2.2.1 (fun r0 => k (.ret) (Sh.mk F12.e21_0 (r0, ()))) (fun r0 r1 r2 r3 r4 r5 r6 r7 r8 r9 => k (.exit 4) (Sh.mk F12.e21_1 (r0, r1, r2, r3, r4, r5, r6, r7, r8, r9, ())))) (fun _ _ => rfl) (fun _ _ _ => by kernel_rfl) N
noncomputable def F12.C {β : Type} (N : Nat) := (Sealed fun β => @F12.K β).1 β N
theorem F12.C_eq {β : Type} (N : Nat) : @F12.C β N = @F12.K β N := congrFun (congrFun (Sealed fun β => @F12.K β).2 β) N
noncomputable def F12.X (N : Nat) : Ctr Try.prog := mkF 12 Try.f12 F12.fx (F12.cs N) [F12.X9 N, F12.X21 N] F12.i (fun x k => F12.C N x.1 x.2.1 x.2.2.1 x.2.2.2.1 x.2.2.2.2.1 x.2.2.2.2.2.1 x.2.2.2.2.2.2.1 x.2.2.2.2.2.2.2.1 (fun r0 => k (Sh.mk F12.o0 (r0, ())))) (by intros; rw [F12.C_eq]; kernel_rfl) (by kernel_rfl) (by kernel_rfl) (by kernel_rfl) (by kernel_rfl) rfl (by kernel_rfl) rfl (by kernel_rfl) (by kernel_rfl) (by kernel_rfl) (.dead _ 12) rfl
end Go.Vi.B
/- minecontrol/minecontrolref11.Ranged -/
namespace Go.Vi.B
open Go.Proofs
set_option linter.unusedVariables false
set_option maxRecDepth 100000
abbrev F38.i : Sh := [(0, .one (.lst .frz 3 .i))]
abbrev F38.o0 : Sh := [(0, .one .bool)]
noncomputable def F38.l2 {β : Type} (N : Nat) : Nat → (List Int) → Bool → Int → (Bool → Option β) → (List Int → Bool → Int → Bool → Option β) → Option β
 | 0, _, _, _, _, _ => none
 | n + 1, v0, v1, v2, k0, k1 =>
  bl (v2 < (v0.length : Int)) (k1 v0 v1 v2 (decide (v2 < (v0.length : Int)))) <|
  ck (0 ≤ v2) <|
  ge (v0[v2.toNat]?) fun x1 =>
  br (x1 < (-70368744177664)) (k0 false) <|
  ck (0 ≤ v2) <|
  ge (v0[v2.toNat]?) fun x2 =>
  br (x2 > 70368744177664) (k0 false) <|
  F38.l2 N n v0 v1 (w (v2 + 1)) k0 k1
noncomputable def F38.K {β : Type} (N : Nat) (a0 : List Int) (k0 : Bool → Option β) : Option β :=
 F38.l2 N N a0 false 0 (fun z3 => k0 z3) fun _ _ _ _ =>
 k0 true
noncomputable def F38.fx : Fx := ⟨Try.prog, [], [], [(0,[0,2]),(1,[0,2,3]),(2,[0,2,3,7]),(3,[0,2,3]),(4,[0,2,3,21]),(5,[2]),(6,[2])], 22, []⟩
noncomputable def F38.cs (N : Nat) : List (Ctr Try.prog) := []
abbrev F38.s2 : Sh := [(0, .one (.lst .frz 3 .i)), (4, .one .bool), (6, .one .i)]
abbrev F38.e2_0 : Sh := [(4, .one .bool)]
abbrev F38.e2_1 : Sh := [(0, .one (.lst .frz 3 .i)), (4, .one .bool), (6, .one .i), (14, .one .bool)]
noncomputable def F38.X2 (N : Nat) : LpC Try.prog F38.fx := mkL (F38.cs N) [] ((loopsOf (bodyOf Try.f38)).getD 0 .skip) 2 [0,2,3] (by kernel_rfl) (by kernel_rfl) (by kernel_rfl) F38.s2 (fun n x k => F38.l2 N n x.1 x.2.1 x.2.2.1 (fun r0 => k (.ret) (Sh.mk F38.e2_0 (r0, ()))) (fun r0 r1 r2 r3 => k (.exit 0) (Sh.mk F38.e2_1 (r0, r1, r2, r3, ())))) (fun _ _ => rfl) (fun _ _ _ => by kernel_rfl) N
noncomputable def F38.C {β : Type} (N : Nat) := (Sealed fun β => @F38.K β).1 β N
theorem F38.C_eq {β : Type} (N : Nat) : @F38.C β N = @F38.K β N := congrFun (congrFun (Sealed fun β => @F38.K β).2 β) N
noncomputable def F38.X (N : Nat) : Ctr Try.prog := mkF 38 Try.f38 F38.fx (F38.cs N) [F38.X2 N] F38.i (fun x k => F38.C N x.1 (fun r0 => k (Sh.mk F38.o0 (r0, ())))) (by intros; rw [F38.C_eq]; kernel_rfl) (by kernel_rfl) (by kernel_rfl) (by kernel_rfl) (by kernel_rfl) rfl (by kernel_rfl) rfl (by kernel_rfl) (by kernel_rfl) (by kernel_rfl) (.dead _ 38) rfl
end Go.Vi.B
/- minecontrol/minecontrolref11.Fixed -/
namespace Go.Vi.B
open Go.Proofs
set_option linter.unusedVariables false
set_option maxRecDepth 100000
abbrev F39.i : Sh := [(0, .agg [.lst .frz 62 kd1, .lst .frz 71 kd8])]
abbrev F39.o0 : Sh := [(0, .one (.view 0 0)), (1, .slot true [.lst .own 4 .bool])]
noncomputable def F39.l3 {β : Type} (N : Nat) : Nat → (List Pl) → (List Ro) → (List Bool) → (List Bool) → Int → (List Pl → List Ro → List Bool → List Bool → Int → Bool → Option β) → Option β
 | 0, _, _, _, _, _, _ => none
 | n + 1, v0, v1, v2, v3, v4, k0 =>
  bl (v4 < (v3.length : Int)) (k0 v0 v1 v2 v3 v4 (decide (v4 < (v3.length : Int)))) <|
  ck (0 ≤ v4) <|
  ge (v3[v4.toNat]?) fun _ =>
  ge (v3[v4.toNat]?) fun x2 =>
  br (!x2) (
   ck (0 ≤ v4) <|
   ge (v3[v4.toNat]?) fun _ =>
   ge (v3[v4.toNat]?) fun _ =>
   F39.l3 N n v0 v1 v2 (v3.set v4.toNat true) (w (v4 + 1)) k0) <|
  ck (0 ≤ v4) <|
  ge (v0[v4.toNat]?) fun x5 =>
  ck (0 ≤ v4) <|
  ge (v3[v4.toNat]?) fun _ =>
  ge (v3[v4.toNat]?) fun _ =>
  F39.l3 N n v0 v1 v2 (v3.set v4.toNat x5.2) (w (v4 + 1)) k0
noncomputable def F39.K {β : Type} (N : Nat) (a0 : List Pl) (a1 : List Ro) (k0 : List Bool → Option β) : Option β :=
 F19.C N a0 a1 fun r1 =>
 F39.l3 N N a0 a1 [] r1 0 fun _ _ _ z11 _ _ =>
 k0 z11
noncomputable def F39.fx : Fx := ⟨Try.prog, [], [], [(0,[1,2]),(1,[1,2,3]),(2,[1,2,3,4]),(3,[1,2,3,4,10]),(4,[1,2,3,4]),(5,[1,2,3,4]),(6,[2])], 30, []⟩
noncomputable def F39.cs (N : Nat) : List (Ctr Try.prog) := [F19.X N]
abbrev F39.s3 : Sh := [(2, .one (.addr 1 0)), (3, .slot false [.lst .frz 62 kd1, .lst .frz 71 kd8]), (4, .one (.view 2 0)), (5, .slot true [.lst .own 4 .bool]), (6, .one (.view 3 0)), (7, .slot true [.lst .own 4 .bool]), (8, .one .i)]
abbrev F39.e3_0 : Sh := [(2, .one (.addr 1 0)), (3, .slot false [.lst .frz 62 kd1, .lst .frz 71 kd8]), (4, .one (.view 2 0)), (5, .slot true [.lst .own 4 .bool]), (6, .one (.view 3 0)), (7, .slot true [.lst .own 4 .bool]), (8, .one .i), (20, .one .bool)]
noncomputable def F39.X3 (N : Nat) : LpC Try.prog F39.fx := mkL (F39.cs N) [] ((loopsOf (bodyOf Try.f39)).getD 0 .skip) 3 [1,2,3,4] (by kernel_rfl) (by kernel_rfl) (by kernel_rfl) F39.s3 (fun n x k => F39.l3 N n x.1 x.2.1 x.2.2.1 x.2.2.2.1 x.2.2.2.2.1 (fun r0 r1 r2 r3 r4 r5 => k (.exit 0) (Sh.mk F39.e3_0 (r0, r1, r2, r3, r4, r5, ())))) (fun _ _ => rfl) (fun _ _ _ => by kernel_rfl) N
noncomputable def F39.C {β : Type} (N : Nat) := (Sealed fun β => @F39.K β).1 β N
theorem F39.C_eq {β : Type} (N : Nat) : @F39.C β N = @F39.K β N := congrFun (congrFun (Sealed fun β => @F39.K β).2 β) N
noncomputable def F39.X (N : Nat) : Ctr Try.prog := mkF 39 Try.f39 F39.fx (F39.cs N) [F39.X3 N] F39.i (fun x k => F39.C N x.1 x.2.1 (fun r0 => k (Sh.mk F39.o0 (r0, ())))) (by intros; rw [F39.C_eq]; kernel_rfl) (by kernel_rfl) (by kernel_rfl) (by kernel_rfl) (by kernel_rfl) rfl (by kernel_rfl) rfl (by kernel_rfl) (by kernel_rfl) (by kernel_rfl) (.dead _ 39) rfl
end Go.Vi.B
/- minecontrol/minecontrolref11.Check -/
namespace Go.Vi.B
open Go.Proofs
set_option linter.unusedVariables false
set_option maxRecDepth 100000
abbrev F13.i : Sh := [(0, .agg [.lst .frz 62 kd1, .lst .frz 71 kd8, .lst .frz 100 kd11, .lst .frz 55 kd13]), (2, .agg [.lst .frz 3 .i, .lst .frz 3 .i]), (4, .agg [.lst .frz 3 .i, .lst .frz 3 .i])]
abbrev F13.o0 : Sh := [(0, .one .i)]
noncomputable def F13.l13 {β : Type} (N : Nat) : Nat → (List Pl) → (List Ro) → (List Fa) → (List Do) → (List Int) → (List Int) → (List Int) → (List Int) → Int → Int → (List Bool) → Int → (Int → Option β) → (List Pl → List Ro → List Fa → List Do → List Int → List Int → List Int → List Int → Int → Int → List Bool → Int → Bool → Option β) → Option β
 | 0, _, _, _, _, _, _, _, _, _, _, _, _, _, _ => none
 | n + 1, v0, v1, v2, v3, v4, v5, v6, v7, v8, v9, v10, v11, k0, k1 =>
  bl (v11 < v9) (k1 v0 v1 v2 v3 v4 v5 v6 v7 v8 v9 v10 v11 (decide (v11 < v9))) <|
  ck (0 ≤ v11) <|
  ge (v10[v11.toNat]?) fun _ =>
  ge (v10[v11.toNat]?) fun x2 =>
  bl x2 (
   F40.C N v0 v1 v2 v3 v4 v5 v7 v11 fun r5 =>
   br (r5 < 0) (k0 12) <|
   F41.C N v0 v1 v2 v3 v4 v5 v6 v11 fun r6 =>
   br (r6 > 0) (k0 12) <|
   F13.l13 N n v0 v1 v2 v3 v4 v5 v6 v7 v8 v9 v10 (w (v11 + 1)) k0 k1) <|
  ck (0 ≤ v11) <|
  ge (v6[v11.toNat]?) fun x3 =>
  br (x3 != 0) (k0 12) <|
  ck (0 ≤ v11) <|
  ge (v7[v11.toNat]?) fun x4 =>
  br (x4 != 0) (k0 12) <|
  F13.l13 N n v0 v1 v2 v3 v4 v5 v6 v7 v8 v9 v10 (w (v11 + 1)) k0 k1
noncomputable def F13.K {β : Type} (N : Nat) (a0 : List Pl) (a1 : List Ro) (a2 : List Fa) (a3 : List Do) (a4 a5 a6 a7 : List Int) (k0 : Int → Option β) : Option β :=
 F36.C N a0 a1 a2 a3 fun r1 =>
 br (r1 != 0) (k0 r1) <|
 F37.C N a0 a1 a2 a3 a4 a5 fun r2 =>
 br (!r2) (k0 21) <|
 br ((a6.length : Int) != (a0.length : Int)) (k0 11) <|
 br ((a7.length : Int) != (a0.length : Int)) (k0 11) <|
 F38.C N a6 fun r3 =>
 br (!r3) (k0 1) <|
 F38.C N a7 fun r4 =>
 br (!r4) (k0 1) <|
 F39.C N a0 a1 fun r5 =>
 F13.l13 N N a0 a1 a2 a3 a4 a5 a6 a7 0 (a0.length : Int) r5 0 (fun z7 => k0 z7) fun _ _ _ _ _ _ _ _ _ _ _ _ _ =>
 k0 0
noncomputable def F13.fx : Fx := ⟨Try.prog, [], [], [(0,[3,4,5,6]),(1,[3,4,5,6,7]),(2,[3,4,5,6,7,14]),(3,[6]),(4,[3,4,5,6,19]),(5,[6]),(6,[3,4,5,6,8]),(7,[3,4,5,6,8,35]),(8,[6]),(9,[3,4,5,6,8,45]),(10,[6]),(11,[3,4,5,6,8,9]),(12,[3,4,5,6,8,9,10]),(13,[3,4,5,6,8,9,10,51]),(14,[3,4,5,6,8,9,10]),(15,[3,4,5,6,8,9,10,57]),(16,[3,4,5,6,8,9,10,71]),(17,[6]),(18,[3,4,5,6,8,9,10,87]),(19,[6]),(20,[6])], 88, []⟩
noncomputable def F13.cs (N : Nat) : List (Ctr Try.prog) := [F36.X N, F37.X N, F38.X N, F39.X N, F40.X N, F41.X N]
abbrev F13.s13 : Sh := [(6, .one (.addr 3 0)), (7, .slot false [.lst .frz 62 kd1, .lst .frz 71 kd8, .lst .frz 100 kd11, .lst .frz 55 kd13]), (8, .one (.addr 4 0)), (9, .slot false [.lst .frz 3 .i, .lst .frz 3 .i]), (10, .one (.addr 5 0)), (11, .slot false [.lst .frz 3 .i, .lst .frz 3 .i]), (12, .one .i), (16, .one .i), (18, .one (.view 9 0)), (19, .slot true [.lst .own 4 .bool]), (20, .one .i)]
abbrev F13.e13_0 : Sh := [(12, .one .i)]
abbrev F13.e13_1 : Sh := [(6, .one (.addr 3 0)), (7, .slot false [.lst .frz 62 kd1, .lst .frz 71 kd8, .lst .frz 100 kd11, .lst .frz 55 kd13]), (8, .one (.addr 4 0)), (9, .slot false [.lst .frz 3 .i, .lst .frz 3 .i]), (10, .one (.addr 5 0)), (11, .slot false [.lst .frz 3 .i, .lst .frz 3 .i]), (12, .one .i), (16, .one .i), (18, .one (.view 9 0)), (19, .slot true [.lst .own 4 .bool]), (20, .one .i), (102, .one .bool)]
noncomputable def F13.X13 (N : Nat) : LpC Try.prog F13.fx := mkL (F13.cs N) [] ((loopsOf (bodyOf Try.f13)).getD 0 .skip) 13 [3,4,5,6,8,9,10] (by kernel_rfl) (by kernel_rfl) (by kernel_rfl) F13.s13 (fun n x k => F13.l13 N n x.1 x.2.1 x.2.2.1 x.2.2.2.1 x.2.2.2.2.1 x.2.2.2.2.2.1 x.2.2.2.2.2.2.1 x.2.2.2.2.2.2.2.1 x.2.2.2.2.2.2.2.2.1 x.2.2.2.2.2.2.2.2.2.1 x.2.2.2.2.2.2.2.2.2.2.1 x.2.2.2.2.2.2.2.2.2.2.2.1 (fun r0 => k (.ret) (Sh.mk F13.e13_0 (r0, ()))) (fun r0 r1 r2 r3 r4 r5 r6 r7 r8 r9 r10 r11 r12 => k (.exit 0) (Sh.mk F13.e13_1 (r0, r1, r2, r3, r4, r5, r6, r7, r8, r9, r10, r11, r12, ())))) (fun _ _ => rfl) (fun _ _ _ => by kernel_rfl) N
noncomputable def F13.C {β : Type} (N : Nat) := (Sealed fun β => @F13.K β).1 β N
theorem F13.C_eq {β : Type} (N : Nat) : @F13.C β N = @F13.K β N := congrFun (congrFun (Sealed fun β => @F13.K β).2 β) N
noncomputable def F13.X (N : Nat) : Ctr Try.prog := mkF 13 Try.f13 F13.fx (F13.cs N) [F13.X13 N] F13.i (fun x k => F13.C N x.1 x.2.1 x.2.2.1 x.2.2.2.1 x.2.2.2.2.1 x.2.2.2.2.2.1 x.2.2.2.2.2.2.1 x.2.2.2.2.2.2.2.1 (fun r0 => k (Sh.mk F13.o0 (r0, ())))) (by intros; rw [F13.C_eq]; kernel_rfl) (by kernel_rfl) (by kernel_rfl) (by kernel_rfl) (by kernel_rfl) rfl (by kernel_rfl) rfl (by kernel_rfl) (by kernel_rfl) (by kernel_rfl) (.dead _ 13) rfl
end Go.Vi.B
/- What ends a certificate's checking. -/
namespace Go.Vi.A
def rngF (_ : Nat) (x : Int) : Int := if x < -70368744177664 then 1 else if x > 70368744177664 then 1 else 0
theorem rngF_01 (i : Nat) (x : Int) : rngF i x = 0 ∨ rngF i x = 1 := by unfold rngF; repeat' split
                                                                        all_goals simp
theorem ferr_01 {α : Type} {f : Nat → α → Int} (h : ∀ i x, f i x = 0 ∨ f i x = 1) : ∀ (xs : List α) (i : Nat), ferr f i xs = 0 ∨ ferr f i xs = 1
  | [], _ => .inl rfl
  | x :: t, i => by
    simp only [ferr]
    split
    · exact ferr_01 h t (i + 1)
    · exact h i x
/-- Both lists of bounds lie in the range. -/
def rngE (lo hi : List Int) : Int := if ferr rngF 0 lo = 0 then if ferr rngF 0 hi = 0 then 0 else 1 else 1
def pairF (hi : List Int) (i : Nat) (x : Int) : Int := ferr rngF 0 [x, hi.getD i 0]
theorem pair_rng {lo hi : List Int} (h : hi.length = lo.length) : ferr (pairF hi) 0 lo = rngE lo hi := by
  have h2 : ferr (pairF hi) 0 lo = 0 ↔ ferr rngF 0 lo = 0 ∧ ferr rngF 0 hi = 0 := by
    rw [ferr_zero, ferr_zero, ferr_zero]
    have e : ∀ (i : Nat) (x : Int), pairF hi i x = 0 ↔ rngF 0 x = 0 ∧ rngF 0 (hi.getD i 0) = 0 := fun i x => by
      unfold pairF; simp only [ferr]
      by_cases c : rngF 0 x = 0
      · rw [if_pos c]
        by_cases d : rngF (0 + 1) (hi.getD i 0) = 0
        · rw [if_pos d]; exact ⟨fun _ => ⟨c, d⟩, fun _ => rfl⟩
        · rw [if_neg d]; exact ⟨fun g => absurd g d, fun g => absurd g.2 d⟩
      · rw [if_neg c]; exact ⟨fun g => absurd g c, fun g => absurd g.1 c⟩
    constructor
    · intro g
      refine ⟨fun j x hx => ((e _ _).1 (g j x hx)).1, fun j x hx => ?_⟩
      obtain ⟨y, hy⟩ := getl (xs := lo) (i := j) (by have := (List.getElem?_eq_some_iff.1 hx).1; omega)
      have := ((e _ _).1 (g j y hy)).2
      rw [Nat.zero_add, getD_eq hx] at this
      exact this
    · rintro ⟨g1, g2⟩ j x hx
      refine (e _ _).2 ⟨g1 j x hx, ?_⟩
      obtain ⟨y, hy⟩ := getl (xs := hi) (i := j) (by have := (List.getElem?_eq_some_iff.1 hx).1; omega)
      rw [Nat.zero_add, getD_eq hy]
      exact g2 j y hy
  unfold rngE
  rcases ferr_01 (f := pairF hi) (fun i x => by unfold pairF; exact ferr_01 rngF_01 _ _) lo 0 with c | c
  · obtain ⟨a, b⟩ := h2.1 c
    rw [c, if_pos a, if_pos b]
  · rw [c]
    by_cases a : ferr rngF 0 lo = 0
    · rw [if_pos a, if_neg fun b => by rw [h2.2 ⟨a, b⟩] at c; cases c]
    · rw [if_neg a]
def fixC (lo hi : List Int) (i : Nat) : Int := if lo.getD i 0 = 0 then if hi.getD i 0 = 0 then 0 else 12 else 12
/-- One place: fixed, or between its bounds. -/
def placeC (A : Nat → Bool) (dz : DS) (fz : FS) (ro : List Ro) (lo hi : List Int) (i : Nat) (p : Pl) : Int :=
  if p.2 = true then fixC lo hi i else if A i = true then if lowP dz fz ro hi (i : Int) < 0 then 12 else if highP dz fz ro lo (i : Int) > 0 then 12 else 0 else fixC lo hi i
/-- What is wrong with a certificate. -/
def certE (A : Nat → Bool) (pl : List Pl) (ro : List Ro) (fa : List Fa) (dr : List Do) (sf sd lo hi : List Int) : Int :=
  thn (airE pl ro fa dr) (if fitE fa dr sf sd = 0 then if (lo.length : Int) = (pl.length : Int) then if (hi.length : Int) = (pl.length : Int) then thn (rngE lo hi) (ferr (placeC A (dr.zip sd) (fa.zip sf) ro lo hi) 0 pl) else 11 else 11 else 21)
end Go.Vi.A
namespace Go.Vi.B
open Go.Proofs Go.Vi.A
set_option linter.unusedVariables false
variable {N : Nat} (hN : 1000 ≤ N) {β : Type}
theorem rng_ok {pl : List Pl} {xs : List Int} (h : ferr rngF 0 xs = 0) (hl : xs.length = pl.length) : PrOk pl xs := ⟨hl, fun x hx => by
  obtain ⟨j, hj⟩ := List.mem_iff_getElem?.1 hx
  have := (ferr_zero xs 0).1 h j x hj
  unfold rngF at this
  split at this
  · cases this
  · split at this
    · cases this
    · omega⟩
theorem fix_end {lo hi : List Int} {i : Nat} {x y : Int} (hx : lo[i]? = some x) (hy : hi[i]? = some y) {L : Option β} {k0 : Int → Option β} :
    (if x = 0 then if y = 0 then L else k0 12 else k0 12) = if fixC lo hi i = 0 then L else k0 (fixC lo hi i) := by
  unfold fixC
  rw [getD_eq hx, getD_eq hy]
  exact ifE' (by decide) fun _ => ifE' (by decide) fun _ => out0
include hN in
theorem check_pair (v0 : List Pl) (v1 : List Ro) (v2 : List Fa) (v3 : List Do) (v4 v5 v6 v7 : List Int) (v8 v9 v10 x y : Int) (K0 : Int → Option β) (K1 : List Pl → List Ro → List Fa → List Do → List Int → List Int → List Int → List Int → Int → Int → Int → List Int → Int → Int → Bool → Option β) :
    F12.l12 N N v0 v1 v2 v3 v4 v5 v6 v7 v8 v9 v10 [x, y] (([x, y] : List Int).length : Int) 0 K0 K1 = if ferr rngF 0 [x, y] = 0 then K1 v0 v1 v2 v3 v4 v5 v6 v7 v8 v9 v10 [x, y] (([x, y] : List Int).length : Int) (([x, y] : List Int).length : Int) false else K0 (ferr rngF 0 [x, y]) := by
  have hl : ([x, y] : List Int).length = 2 := rfl
  refine (lerr (xs := [x, y]) rngF (L := fun n j => F12.l12 N n v0 v1 v2 v3 v4 v5 v6 v7 v8 v9 v10 [x, y] (([x, y] : List Int).length : Int) (j : Int) K0 K1) (k0 := K0) (k1 := K1 v0 v1 v2 v3 v4 v5 v6 v7 v8 v9 v10 [x, y] (([x, y] : List Int).length : Int) (([x, y] : List Int).length : Int) false)
    (fun n => by simp only [F12.l12, res, Int.lt_irrefl, decide_false]) (fun i z hz n => by
      have hi := idx hz
      simp only [F12.l12, res, Int.toNat_natCast, hz, ge_some, w_succ (show i < 4000000000 by omega)]
      rw [if_pos (by omega), if_pos (by omega)]
      unfold rngF
      exact ifE (by decide) fun _ => ifE (by decide) fun _ => out0) N 0 (by omega) (by omega)).trans ?_
  rw [List.drop_zero]
include hN in
theorem check_places {pl : List Pl} {ro : List Ro} {fa : List Fa} {dr : List Do} (sf sd : List Int) {lo hi : List Int} (h : AirOk pl ro fa dr) (hl : PrOk pl lo) (hh : PrOk pl hi) (A : Nat → Bool) (v2 : Int) (K0 : Int → Option β) (K1 : List Int → List Int → Int → List Bool → List (Ro × (Int × (List (Fa × Int)))) → List (Option (List Int)) → List Pl → Int → Int → Bool → Option β) :
    F12.l21 N N lo hi v2 (tab pl.length fun i => !A i) (pipesF (dr.zip sd) (fa.zip sf) 0 ro) (tab pl.length fun p => some (atF p 0 (pipesF (dr.zip sd) (fa.zip sf) 0 ro))) pl (pl.length : Int) 0 K0 K1 =
    if ferr (placeC A (dr.zip sd) (fa.zip sf) ro lo hi) 0 pl = 0 then K1 lo hi v2 (tab pl.length fun i => !A i) (pipesF (dr.zip sd) (fa.zip sf) 0 ro) (tab pl.length fun p => some (atF p 0 (pipesF (dr.zip sd) (fa.zip sf) 0 ro))) pl (pl.length : Int) (pl.length : Int) false else K0 (ferr (placeC A (dr.zip sd) (fa.zip sf) ro lo hi) 0 pl) := by
  have hn := h.npl
  refine (lerr (xs := pl) (placeC A (dr.zip sd) (fa.zip sf) ro lo hi) (L := fun n j => F12.l21 N n lo hi v2 (tab pl.length fun i => !A i) (pipesF (dr.zip sd) (fa.zip sf) 0 ro) (tab pl.length fun p => some (atF p 0 (pipesF (dr.zip sd) (fa.zip sf) 0 ro))) pl (pl.length : Int) (j : Int) K0 K1) (k0 := K0)
    (fun n => by simp only [F12.l21, res, Int.lt_irrefl, decide_false]; rfl) (fun i p hp n => by
      have hi' := idx hp
      obtain ⟨x, hx⟩ := getl (xs := lo) (i := i) (by have := hl.len; omega)
      obtain ⟨y, hy⟩ := getl (xs := hi) (i := i) (by have := hh.len; omega)
      simp only [F12.l21, res, Int.toNat_natCast, hp, hx, hy, ge_some, w_succ (show i < 4000000000 by omega), tab_get hi', net_Low (β := β) hN sf sd h hh (show (0 : Int) ≤ (i : Int) by omega) (show (i : Int) < (pl.length : Int) by omega), net_High (β := β) hN sf sd h hl (show (0 : Int) ≤ (i : Int) by omega) (show (i : Int) < (pl.length : Int) by omega)]
      rw [if_pos (by omega)]
      simp only [show (0 : Int) ≤ (i : Int) by omega, if_true]
      unfold placeC
      cases ht : p.2 with
      | true =>
        simp only [res, if_true]
        exact fix_end hx hy
      | false =>
        simp only [res, Bool.false_eq_true, if_false]
        cases ha : A i with
        | false =>
          simp only [res, Bool.false_eq_true, if_false]
          exact fix_end hx hy
        | true =>
          simp only [res, if_true]
          exact ifE (by decide) fun _ => ifE (by decide) fun _ => out0) N 0 (by omega) (by omega)).trans ?_
  rw [List.drop_zero]
include hN in
theorem certify_Check (pl : List Pl) (ro : List Ro) (fa : List Fa) (dr : List Do) (sf sd lo hi : List Int) (k : Int → Option β) :
    F12.C N pl ro fa dr sf sd lo hi k = k (certE (airB pl ro) pl ro fa dr sf sd lo hi) := by
  rw [F12.C_eq]; unfold F12.K certE
  simp only [res, branch_Check hN]
  refine thnK fun h0 => ?_
  have h := AirOk.of h0
  have hn := h.npl
  rw [branch_Fitting hN pl ro fa dr sf sd h0]
  unfold nz
  by_cases c : fitE fa dr sf sd = 0
  · rw [if_pos c, decide_eq_true c]
    simp only [res]
    have hs := SetOk.of c
    refine ifK' fun c1 => ifK' fun c2 => ?_
    have hl : hi.length = lo.length := by omega
    refine (lerr (xs := lo) (pairF hi) (L := fun n i => F12.l9 N n pl ro fa dr sf sd lo hi 0 (lo.length : Int) (i : Int) (fun z19 => k z19) fun z20 z21 z22 z23 z24 z25 z26 z27 z28 _ _ _ =>
        F32.C N z20 z21 fun r32 => F33.C N z20 z21 z22 z23 z24 z25 fun r33 r34 => F12.l21 N N z26 z27 z28 r32 r33 r34 z20 (z20.length : Int) 0 (fun z35 => k z35) fun _ _ _ _ _ _ _ _ _ _ => k 0) (k0 := k)
      (k1 := F32.C N pl ro fun r32 => F33.C N pl ro fa dr sf sd fun r33 r34 => F12.l21 N N lo hi 0 r32 r33 r34 pl (pl.length : Int) 0 (fun z35 => k z35) fun _ _ _ _ _ _ _ _ _ _ => k 0)
      (fun n => by simp only [F12.l9, res]; rw [if_neg (by omega)]) (fun i x hx n => by
        have hi' := idx hx
        obtain ⟨y, hy⟩ := getl (xs := hi) (i := i) (by omega)
        simp only [F12.l9, res, Int.toNat_natCast, hx, hy, ge_some]
        rw [if_pos (by omega), if_pos (by omega), if_pos (by omega)]
        unfold pairF
        rw [getD_eq hy, check_pair hN]
        simp only [w_succ (show i < 4000000000 by omega)]) N 0 (by omega) (by omega)).trans ?_
    rw [List.drop_zero, pair_rng hl]
    refine thnK fun h1 => ?_
    have hr : ferr rngF 0 lo = 0 ∧ ferr rngF 0 hi = 0 := by
      unfold rngE at h1
      split at h1
      · rename_i a
        split at h1
        · rename_i b; exact ⟨a, b⟩
        · cases h1
      · cases h1
    rw [certify_Lost hN h0, make_eq hN h hs, check_places hN sf sd h (rng_ok hr.1 (by omega)) (rng_ok hr.2 (by omega)) (airB pl ro)]
    exact endK
  · rw [if_neg c, decide_eq_false c]; rfl
include hN in
theorem ref11_Ranged {xs : List Int} (hl : xs.length ≤ 64) (k : Bool → Option β) : F38.C N xs k = nz k (ferr rngF 0 xs) := by
  rw [F38.C_eq]; unfold F38.K
  simp only [nz0 k]
  refine (lerr (xs := xs) rngF (L := fun n i => F38.l2 N n xs false (i : Int) (fun z3 => k z3) fun _ _ _ _ => nz k 0) (k0 := nz k) (k1 := nz k 0) (fun n => by
      simp only [F38.l2, res, Int.lt_irrefl, if_false]) (fun i x hx n => by
      have hi := idx hx
      simp only [F38.l2, res, nz1 k, Int.toNat_natCast, hx, ge_some, w_succ (show i < 4000000000 by omega)]
      rw [if_pos (by omega), if_pos (by omega)]
      unfold rngF
      exact ifE (by decide) fun _ => (by rw [if_pos (by omega)]; exact ifE (by decide) fun _ => out0)) N 0 (by omega) (by omega)).trans ?_
  rw [List.drop_zero]; exact endK
include hN in
theorem ref11_Fixed {pl : List Pl} {ro : List Ro} (hn : pl.length ≤ 64) (hm : ro.length ≤ 128) (hr : RdOk pl.length ro) (k : List Bool → Option β) : F39.C N pl ro k = k (tab pl.length fun i => !airB pl ro i || topB pl i) := by
  rw [F39.C_eq]; unfold F39.K
  rw [ref01_Airy hN hn hm hr]
  obtain ⟨s, hs, e⟩ := lfor (len := pl.length) (L := fun n j (s : List Bool) => F39.l3 N n pl ro [] s (j : Int) fun _ _ _ z11 _ _ => k z11) (k := k)
    (fun j s => s = tab pl.length fun i => if i < j then !airB pl ro i || topB pl i else airB pl ro i)
    (fun n s hs => by subst hs; simp only [F39.l3, res, tab_len, Int.lt_irrefl, if_false])
    (fun j s hj hs => by
      obtain ⟨p, hp⟩ := getl hj
      have et : topB pl j = p.2 := by unfold topB; rw [getD_eq hp]
      refine ⟨_, rfl, fun n => ?_⟩
      subst hs
      have cong : ∀ k, k < pl.length → k ≠ j → (if k < j + 1 then !airB pl ro k || topB pl k else airB pl ro k) = if k < j then !airB pl ro k || topB pl k else airB pl ro k := fun k hk hne => by
        have : k < j + 1 ↔ k < j := by omega
        simp only [this]
      simp only [F39.l3, res, tab_len, Int.toNat_natCast, hp, ge_some, w_succ (show j < 4000000000 by omega), tab_get hj, Nat.lt_irrefl, if_false]
      rw [if_pos (by omega), if_pos (by omega)]
      cases ha : airB pl ro j with
      | false =>
        simp only [res]
        rw [tab_set (fun i => if i < j + 1 then !airB pl ro i || topB pl i else airB pl ro i) (by rw [if_pos (by omega), ha]; rfl) cong]
        first | rfl | rw [if_pos (by omega)]
      | true =>
        simp only [res]
        rw [tab_set (fun i => if i < j + 1 then !airB pl ro i || topB pl i else airB pl ro i) (by rw [if_pos (by omega), ha, et]; rfl) cong]
        first | rfl | rw [if_pos (by omega)] | (rw [if_pos (by omega), if_pos (by omega)])) 0 (tab pl.length (airB pl ro)) N (tab_congr fun i _ => by simp) (by omega) (by omega)
  refine e.trans ?_
  rw [hs]
  exact congrArg k (tab_congr fun i hi => if_pos hi)
include hN in
theorem ref11_Check (pl : List Pl) (ro : List Ro) (fa : List Fa) (dr : List Do) (sf sd lo hi : List Int) (k : Int → Option β) :
    F13.C N pl ro fa dr sf sd lo hi k = k (certE (airB pl ro) pl ro fa dr sf sd lo hi) := by
  rw [F13.C_eq]; unfold F13.K certE
  simp only [res, ref09_Check hN]
  refine thnK fun h0 => ?_
  have h := AirOk.of h0
  have hn := h.npl
  rw [ref09_Right hN]
  unfold nz rightE
  rw [h0, thn, if_pos rfl]
  by_cases c : fitE fa dr sf sd = 0
  · rw [if_pos c, decide_eq_true c]
    simp only [res]
    have hs := SetOk.of c
    refine ifK' fun c1 => ifK' fun c2 => ?_
    rw [ref11_Ranged hN (by omega)]
    unfold rngE nz
    by_cases a : ferr rngF 0 lo = 0
    · rw [if_pos a, decide_eq_true a]
      simp only [res]
      rw [ref11_Ranged hN (by omega)]
      unfold nz
      by_cases b : ferr rngF 0 hi = 0
      · rw [if_pos b, decide_eq_true b]
        simp only [res]
        rw [ref11_Fixed hN hn h.nro h.rd, thn, if_pos rfl]
        have hl := rng_ok a (pl := pl) (by omega)
        have hh := rng_ok b (pl := pl) (by omega)
        refine (lerr (xs := pl) (placeC (airB pl ro) (dr.zip sd) (fa.zip sf) ro lo hi) (L := fun n j => F13.l13 N n pl ro fa dr sf sd lo hi 0 (pl.length : Int) (tab pl.length fun i => !airB pl ro i || topB pl i) (j : Int) (fun z7 => k z7) fun _ _ _ _ _ _ _ _ _ _ _ _ _ => k 0) (k0 := k) (k1 := k 0)
          (fun n => by simp only [F13.l13, res, Int.lt_irrefl, if_false]) (fun i p hp n => by
            have hi' := idx hp
            obtain ⟨x, hx⟩ := getl (xs := lo) (i := i) (by have := hl.len; omega)
            obtain ⟨y, hy⟩ := getl (xs := hi) (i := i) (by have := hh.len; omega)
            have et : topB pl i = p.2 := by unfold topB; rw [getD_eq hp]
            simp only [F13.l13, res, Int.toNat_natCast, hx, hy, ge_some, w_succ (show i < 4000000000 by omega), tab_get hi', ref10_Lowest (β := β) hN h hs hh, ref10_Highest (β := β) hN h hs hl, et]
            rw [if_pos (by omega)]
            simp only [show (0 : Int) ≤ (i : Int) by omega, if_true]
            unfold placeC
            cases ht : p.2 with
            | true =>
              simp only [res, if_true, Bool.or_true]
              exact fix_end hx hy
            | false =>
              simp only [res, Bool.false_eq_true, if_false, Bool.or_false]
              cases ha : airB pl ro i with
              | false =>
                simp only [res, Bool.false_eq_true, if_false]
                exact fix_end hx hy
              | true =>
                simp only [res, if_true]
                exact ifE (by decide) fun _ => ifE (by decide) fun _ => out0) N 0 (by omega) (by omega)).trans ?_
        rw [List.drop_zero]
        exact endK
      · rw [if_neg b, decide_eq_false b]; rfl
    · rw [if_neg a, decide_eq_false a]; rfl
  · rw [if_neg c, decide_eq_false c]; rfl
end Go.Vi.B
/- minecontrol/certify.Flows -/
namespace Go.Vi.B
open Go.Proofs
set_option linter.unusedVariables false
set_option maxRecDepth 100000
abbrev F15.i : Sh := [(0, .agg [.lst .frz 62 kd1, .lst .frz 71 kd8, .lst .frz 100 kd11, .lst .frz 55 kd13]), (2, .agg [.lst .frz 3 .i, .lst .frz 3 .i]), (4, .agg [.lst .frz 3 .i, .lst .frz 3 .i])]
abbrev F15.o0 : Sh := [(0, .one (.view 0 0)), (1, .slot true [.lst .own 57 kd0])]
noncomputable def F15.l6 {β : Type} (N : Nat) : Nat → (List Int) → (List Int) → (List Sp) → (List Sp) → (List Bool) → (List (Ro × (Int × (List (Fa × Int))))) → (List (Option (List Int))) → Int → Int → (List Int → List Int → List Sp → List Sp → List Bool → (List (Ro × (Int × (List (Fa × Int))))) → (List (Option (List Int))) → Int → Int → Bool → Option β) → Option β
 | 0, _, _, _, _, _, _, _, _, _, _ => none
 | n + 1, v0, v1, v2, v3, v4, v5, v6, v7, v8, k0 =>
  bl (v8 < v7) (k0 v0 v1 v2 v3 v4 v5 v6 v7 v8 (decide (v8 < v7))) <|
  ck (0 ≤ v8) <|
  ge (v5[v8.toNat]?) fun _ =>
  ge (v5[v8.toNat]?) fun x2 =>
  ck (0 ≤ x2.1.1) <|
  ge (v4[x2.1.1.toNat]?) fun _ =>
  ge (v4[x2.1.1.toNat]?) fun x4 =>
  br x4 (
   ck (0 ≤ x2.2.1) <|
   ge (v3[x2.2.1.toNat]?) fun _ =>
   ge (v3[x2.2.1.toNat]?) fun _ =>
   F15.l6 N n v0 v1 v2 (v3.set x2.2.1.toNat ((-1125899906842624), 1125899906842624)) v4 v5 v6 v7 (w (v8 + 1)) k0) <|
  ck (0 ≤ x2.1.1) <|
  ge (v0[x2.1.1.toNat]?) fun x7 =>
  ck (0 ≤ x2.1.2.1) <|
  ge (v1[x2.1.2.1.toNat]?) fun x8 =>
  F42.C N x2.1.1 x2.1.2.1 x2.1.2.2.1 x2.1.2.2.2.1 x2.1.2.2.2.2.1 x2.1.2.2.2.2.2.1 x2.1.2.2.2.2.2.2.1.1 x2.1.2.2.2.2.2.2.1.2 x2.1.2.2.2.2.2.2.2.1 x2.1.2.2.2.2.2.2.2.2 x2.2.1 x2.2.2 (w (x7 - x8)) fun r9 =>
  ck (0 ≤ x2.1.1) <|
  ge (v1[x2.1.1.toNat]?) fun x10 =>
  ck (0 ≤ x2.1.2.1) <|
  ge (v0[x2.1.2.1.toNat]?) fun x11 =>
  F43.C N x2.1.1 x2.1.2.1 x2.1.2.2.1 x2.1.2.2.2.1 x2.1.2.2.2.2.1 x2.1.2.2.2.2.2.1 x2.1.2.2.2.2.2.2.1.1 x2.1.2.2.2.2.2.2.1.2 x2.1.2.2.2.2.2.2.2.1 x2.1.2.2.2.2.2.2.2.2 x2.2.1 x2.2.2 (w (x10 - x11)) fun r12 =>
  ck (0 ≤ x2.2.1) <|
  ge (v3[x2.2.1.toNat]?) fun _ =>
  ge (v3[x2.2.1.toNat]?) fun _ =>
  F15.l6 N n v0 v1 v2 (v3.set x2.2.1.toNat (r9, r12)) v4 v5 v6 v7 (w (v8 + 1)) k0
noncomputable def F15.K {β : Type} (N : Nat) (a0 : List Pl) (a1 : List Ro) (a2 : List Fa) (a3 : List Do) (a4 a5 a6 a7 : List Int) (k0 : List Sp → Option β) : Option β :=
 F12.C N a0 a1 a2 a3 a4 a5 a6 a7 fun r1 =>
 br (r1 != 0) (k0 []) <|
 ck ((a1.length : Int) = (a1.length : Int)) <|
 ck (0 ≤ (a1.length : Int)) <|
 ck ((a1.length : Int) ≤ 1000000000) <|
 F32.C N a0 a1 fun r2 =>
 F33.C N a0 a1 a2 a3 a4 a5 fun r3 r4 =>
 F15.l6 N N a6 a7 [] (List.replicate (Int.toNat (a1.length : Int)) (0, 0)) r2 r3 r4 (r3.length : Int) 0 fun _ _ _ z18 _ _ _ _ _ _ =>
 k0 z18
noncomputable def F15.fx : Fx := ⟨Try.prog, [], [], [(0,[3,4,5,6]),(1,[3,4,5,6,15]),(2,[6]),(3,[3,4,5,6,7]),(4,[3,4,5,6,7,8]),(5,[5,6,7,8,27,28,29]),(6,[5,6,7,8,27,28,29,30]),(7,[5,6,7,8,10,27,28,29]),(8,[5,6,7,8,10,27,28,29,38]),(9,[5,6,7,8,27,28,29]),(10,[5,6,7,8,27,28,29]),(11,[5,6,7,8,27,28,29]),(12,[6])], 85, []⟩
noncomputable def F15.cs (N : Nat) : List (Ctr Try.prog) := [F12.X N, F32.X N, F33.X N, F42.X N, F43.X N]
abbrev F15.s6 : Sh := [(10, .one (.addr 5 0)), (11, .slot false [.lst .frz 3 .i, .lst .frz 3 .i]), (12, .one (.view 6 0)), (13, .slot true [.lst .own 57 kd0]), (14, .one (.view 7 0)), (15, .slot true [.lst .own 57 kd0]), (16, .one (.view 8 0)), (17, .slot true [.lst .own 4 .bool]), (53, .slot true [.lst .own 91 kd16, .lst .own 23 (.ow 3 .i)]), (54, .one (.view 26 0)), (56, .one .i), (58, .one .i)]
abbrev F15.e6_0 : Sh := [(10, .one (.addr 5 0)), (11, .slot false [.lst .frz 3 .i, .lst .frz 3 .i]), (12, .one (.view 6 0)), (13, .slot true [.lst .own 57 kd0]), (14, .one (.view 7 0)), (15, .slot true [.lst .own 57 kd0]), (16, .one (.view 8 0)), (17, .slot true [.lst .own 4 .bool]), (53, .slot true [.lst .own 91 kd16, .lst .own 23 (.ow 3 .i)]), (54, .one (.view 26 0)), (56, .one .i), (58, .one .i), (60, .one .bool)]
noncomputable def F15.X6 (N : Nat) : LpC Try.prog F15.fx := mkL (F15.cs N) [] ((loopsOf (bodyOf Try.f15)).getD 0 .skip) 6 [5,6,7,8,27,28,29] (by kernel_rfl) (by kernel_rfl) (by kernel_rfl) F15.s6 (fun n x k => F15.l6 N n x.1 x.2.1 x.2.2.1 x.2.2.2.1 x.2.2.2.2.1 x.2.2.2.2.2.1 x.2.2.2.2.2.2.1 x.2.2.2.2.2.2.2.1 x.2.2.2.2.2.2.2.2.1 (fun r0 r1 r2 r3 r4 r5 r6 r7 r8 r9 => k (.exit 0) (Sh.mk F15.e6_0 (r0, r1, r2, r3, r4, r5, r6, r7, r8, r9, ())))) (fun _ _ => rfl) (fun _ _ _ => by kernel_rfl) N
noncomputable def F15.C {β : Type} (N : Nat) := (Sealed fun β => @F15.K β).1 β N
theorem F15.C_eq {β : Type} (N : Nat) : @F15.C β N = @F15.K β N := congrFun (congrFun (Sealed fun β => @F15.K β).2 β) N
noncomputable def F15.X (N : Nat) : Ctr Try.prog := mkF 15 Try.f15 F15.fx (F15.cs N) [F15.X6 N] F15.i (fun x k => F15.C N x.1 x.2.1 x.2.2.1 x.2.2.2.1 x.2.2.2.2.1 x.2.2.2.2.2.1 x.2.2.2.2.2.2.1 x.2.2.2.2.2.2.2.1 (fun r0 => k (Sh.mk F15.o0 (r0, ())))) (by intros; rw [F15.C_eq]; kernel_rfl) (by kernel_rfl) (by kernel_rfl) (by kernel_rfl) (by kernel_rfl) rfl (by kernel_rfl) rfl (by kernel_rfl) (by kernel_rfl) (by kernel_rfl) (.dead _ 15) rfl
end Go.Vi.B
/- minecontrol/minecontrolref05.Nothing -/
namespace Go.Vi.B
open Go.Proofs
set_option linter.unusedVariables false
set_option maxRecDepth 100000
abbrev F44.i : Sh := []
abbrev F44.o0 : Sh := [(0, .agg [.i, .i])]
noncomputable def F44.K {β : Type} (N : Nat) (k0 : Int → Int → Option β) : Option β :=
 k0 (-1125899906842624) 1125899906842624
noncomputable def F44.fx : Fx := ⟨Try.prog, [0], [], [(0,[0]),(1,[0])], 2, []⟩
noncomputable def F44.cs (N : Nat) : List (Ctr Try.prog) := []
noncomputable def F44.C {β : Type} (N : Nat) := (Sealed fun β => @F44.K β).1 β N
theorem F44.C_eq {β : Type} (N : Nat) : @F44.C β N = @F44.K β N := congrFun (congrFun (Sealed fun β => @F44.K β).2 β) N
noncomputable def F44.X (N : Nat) : Ctr Try.prog := mkF 44 Try.f44 F44.fx (F44.cs N) [] F44.i (fun x k => F44.C N (fun r0 r1 => k (Sh.mk F44.o0 (r0, r1, ())))) (by intros; rw [F44.C_eq]; kernel_rfl) (by kernel_rfl) (by kernel_rfl) (by kernel_rfl) (by kernel_rfl) rfl (by kernel_rfl) rfl (by kernel_rfl) (by kernel_rfl) (by kernel_rfl) (.dead _ 44) rfl
end Go.Vi.B
/- minecontrol/minecontrolref11.Flows -/
namespace Go.Vi.B
open Go.Proofs
set_option linter.unusedVariables false
set_option maxRecDepth 100000
abbrev F16.i : Sh := [(0, .agg [.lst .frz 62 kd1, .lst .frz 71 kd8, .lst .frz 100 kd11, .lst .frz 55 kd13]), (2, .agg [.lst .frz 3 .i, .lst .frz 3 .i]), (4, .agg [.lst .frz 3 .i, .lst .frz 3 .i])]
abbrev F16.o0 : Sh := [(0, .one (.view 0 0)), (1, .slot true [.lst .own 57 kd0])]
noncomputable def F16.l6 {β : Type} (N : Nat) : Nat → (List Pl) → (List Ro) → (List Fa) → (List Do) → (List Int) → (List Int) → (List Int) → (List Int) → (List Sp) → (List Bool) → (List Sp) → Int → (List Pl → List Ro → List Fa → List Do → List Int → List Int → List Int → List Int → List Sp → List Bool → List Sp → Int → Bool → Option β) → Option β
 | 0, _, _, _, _, _, _, _, _, _, _, _, _, _ => none
 | n + 1, v0, v1, v2, v3, v4, v5, v6, v7, v8, v9, v10, v11, k0 =>
  bl (v11 < (v1.length : Int)) (k0 v0 v1 v2 v3 v4 v5 v6 v7 v8 v9 v10 v11 (decide (v11 < (v1.length : Int)))) <|
  ck (0 ≤ v11) <|
  ge (v1[v11.toNat]?) fun x1 =>
  bl (!x1.2.2.2.2.2.1) (
   ck (v10.length + 1 ≤ 1000000000) <|
   F16.l6 N n v0 v1 v2 v3 v4 v5 v6 v7 v8 v9 (v10 ++ [(0, 0)]) (w (v11 + 1)) k0) <|
  F44.C N fun r2 r3 =>
  ck (0 ≤ x1.1) <|
  ge (v9[x1.1.toNat]?) fun _ =>
  ge (v9[x1.1.toNat]?) fun x5 =>
  bl x5 (
   ck (v10.length + 1 ≤ 1000000000) <|
   F16.l6 N n v0 v1 v2 v3 v4 v5 v6 v7 v8 v9 (v10 ++ [(r2, r3)]) (w (v11 + 1)) k0) <|
  ck (0 ≤ x1.1) <|
  ge (v6[x1.1.toNat]?) fun x6 =>
  ck (0 ≤ x1.2.1) <|
  ge (v7[x1.2.1.toNat]?) fun x7 =>
  F45.C N v0 v1 v2 v3 v4 v5 v11 (w (x6 - x7)) fun r8 =>
  ck (0 ≤ x1.1) <|
  ge (v7[x1.1.toNat]?) fun x9 =>
  ck (0 ≤ x1.2.1) <|
  ge (v6[x1.2.1.toNat]?) fun x10 =>
  F46.C N v0 v1 v2 v3 v4 v5 v11 (w (x9 - x10)) fun r11 =>
  ck (v10.length + 1 ≤ 1000000000) <|
  F16.l6 N n v0 v1 v2 v3 v4 v5 v6 v7 v8 v9 (v10 ++ [(r8, r11)]) (w (v11 + 1)) k0
noncomputable def F16.K {β : Type} (N : Nat) (a0 : List Pl) (a1 : List Ro) (a2 : List Fa) (a3 : List Do) (a4 a5 a6 a7 : List Int) (k0 : List Sp → Option β) : Option β :=
 F13.C N a0 a1 a2 a3 a4 a5 a6 a7 fun r1 =>
 br (r1 != 0) (k0 []) <|
 F19.C N a0 a1 fun r2 =>
 F16.l6 N N a0 a1 a2 a3 a4 a5 a6 a7 [] r2 [] 0 fun _ _ _ _ _ _ _ _ _ _ z22 _ _ =>
 k0 z22
noncomputable def F16.fx : Fx := ⟨Try.prog, [], [], [(0,[3,4,5,6]),(1,[3,4,5,6,16]),(2,[6]),(3,[3,4,5,6,7]),(4,[3,4,5,6,7,8]),(5,[3,4,5,6,7,8,9]),(6,[3,4,5,6,7,8,9,25]),(7,[3,4,5,6,7,8,9]),(8,[3,4,5,6,7,8,9,10]),(9,[3,4,5,6,7,8,9,10,11]),(10,[3,4,5,6,7,8,9,10,11,37]),(11,[3,4,5,6,7,8,9,10,11]),(12,[3,4,5,6,7,8,9,10,11,43]),(13,[3,4,5,6,7,8,9,11]),(14,[3,4,5,6,7,8,9]),(15,[6])], 84, []⟩
noncomputable def F16.cs (N : Nat) : List (Ctr Try.prog) := [F13.X N, F19.X N, F44.X N, F45.X N, F46.X N]
abbrev F16.s6 : Sh := [(6, .one (.addr 3 0)), (7, .slot false [.lst .frz 62 kd1, .lst .frz 71 kd8, .lst .frz 100 kd11, .lst .frz 55 kd13]), (8, .one (.addr 4 0)), (9, .slot false [.lst .frz 3 .i, .lst .frz 3 .i]), (10, .one (.addr 5 0)), (11, .slot false [.lst .frz 3 .i, .lst .frz 3 .i]), (12, .one (.view 6 0)), (13, .slot true [.lst .own 57 kd0]), (14, .one (.view 7 0)), (15, .slot true [.lst .own 4 .bool]), (16, .one (.view 8 0)), (17, .slot true [.lst .own 57 kd0]), (18, .one .i)]
abbrev F16.e6_0 : Sh := [(6, .one (.addr 3 0)), (7, .slot false [.lst .frz 62 kd1, .lst .frz 71 kd8, .lst .frz 100 kd11, .lst .frz 55 kd13]), (8, .one (.addr 4 0)), (9, .slot false [.lst .frz 3 .i, .lst .frz 3 .i]), (10, .one (.addr 5 0)), (11, .slot false [.lst .frz 3 .i, .lst .frz 3 .i]), (12, .one (.view 6 0)), (13, .slot true [.lst .own 57 kd0]), (14, .one (.view 7 0)), (15, .slot true [.lst .own 4 .bool]), (16, .one (.view 8 0)), (17, .slot true [.lst .own 57 kd0]), (18, .one .i), (50, .one .bool)]
noncomputable def F16.X6 (N : Nat) : LpC Try.prog F16.fx := mkL (F16.cs N) [] ((loopsOf (bodyOf Try.f16)).getD 0 .skip) 6 [3,4,5,6,7,8,9] (by kernel_rfl) (by kernel_rfl) (by kernel_rfl) F16.s6 (fun n x k => F16.l6 N n x.1 x.2.1 x.2.2.1 x.2.2.2.1 x.2.2.2.2.1 x.2.2.2.2.2.1 x.2.2.2.2.2.2.1 x.2.2.2.2.2.2.2.1 x.2.2.2.2.2.2.2.2.1 x.2.2.2.2.2.2.2.2.2.1 x.2.2.2.2.2.2.2.2.2.2.1 x.2.2.2.2.2.2.2.2.2.2.2.1 (fun r0 r1 r2 r3 r4 r5 r6 r7 r8 r9 r10 r11 r12 => k (.exit 0) (Sh.mk F16.e6_0 (r0, r1, r2, r3, r4, r5, r6, r7, r8, r9, r10, r11, r12, ())))) (fun _ _ => rfl) (fun _ _ _ => by kernel_rfl) N
noncomputable def F16.C {β : Type} (N : Nat) := (Sealed fun β => @F16.K β).1 β N
theorem F16.C_eq {β : Type} (N : Nat) : @F16.C β N = @F16.K β N := congrFun (congrFun (Sealed fun β => @F16.K β).2 β) N
noncomputable def F16.X (N : Nat) : Ctr Try.prog := mkF 16 Try.f16 F16.fx (F16.cs N) [F16.X6 N] F16.i (fun x k => F16.C N x.1 x.2.1 x.2.2.1 x.2.2.2.1 x.2.2.2.2.1 x.2.2.2.2.2.1 x.2.2.2.2.2.2.1 x.2.2.2.2.2.2.2.1 (fun r0 => k (Sh.mk F16.o0 (r0, ())))) (by intros; rw [F16.C_eq]; kernel_rfl) (by kernel_rfl) (by kernel_rfl) (by kernel_rfl) (by kernel_rfl) rfl (by kernel_rfl) rfl (by kernel_rfl) (by kernel_rfl) (by kernel_rfl) (.dead _ 16) rfl
end Go.Vi.B
/- minecontrol/minecontrolref01.Spans -/
namespace Go.Vi.B
open Go.Proofs
set_option linter.unusedVariables false
set_option maxRecDepth 100000
abbrev F14.i : Sh := [(0, .one (.lst .frz 57 kd0)), (2, .one (.lst .frz 57 kd0))]
abbrev F14.o0 : Sh := [(0, .one .bool)]
noncomputable def F14.l4 {β : Type} (N : Nat) : Nat → (List Sp) → (List Sp) → Bool → Int → (Bool → Option β) → (List Sp → List Sp → Bool → Int → Bool → Option β) → Option β
 | 0, _, _, _, _, _, _ => none
 | n + 1, v0, v1, v2, v3, k0, k1 =>
  bl (v3 < (v0.length : Int)) (k1 v0 v1 v2 v3 (decide (v3 < (v0.length : Int)))) <|
  ck (0 ≤ v3) <|
  ge (v0[v3.toNat]?) fun x1 =>
  ck (0 ≤ v3) <|
  ge (v1[v3.toNat]?) fun x2 =>
  br (!((x1.1 == x2.1) && ((x1.2 == x2.2) && true))) (k0 false) <|
  F14.l4 N n v0 v1 v2 (w (v3 + 1)) k0 k1
noncomputable def F14.K {β : Type} (N : Nat) (a0 a1 : List Sp) (k0 : Bool → Option β) : Option β :=
 br ((a0.length : Int) != (a1.length : Int)) (k0 false) <|
 F14.l4 N N a0 a1 false 0 (fun z3 => k0 z3) fun _ _ _ _ _ =>
 k0 true
noncomputable def F14.fx : Fx := ⟨Try.prog, [], [], [(0,[0,1,4]),(1,[0,1,4,10]),(2,[4]),(3,[0,1,4,5]),(4,[0,1,4,5,14]),(5,[0,1,4,5]),(6,[0,1,4,5,25]),(7,[4]),(8,[4])], 26, []⟩
noncomputable def F14.cs (N : Nat) : List (Ctr Try.prog) := []
abbrev F14.s4 : Sh := [(0, .one (.lst .frz 57 kd0)), (2, .one (.lst .frz 57 kd0)), (8, .one .bool), (10, .one .i)]
abbrev F14.e4_0 : Sh := [(8, .one .bool)]
abbrev F14.e4_1 : Sh := [(0, .one (.lst .frz 57 kd0)), (2, .one (.lst .frz 57 kd0)), (8, .one .bool), (10, .one .i), (28, .one .bool)]
noncomputable def F14.X4 (N : Nat) : LpC Try.prog F14.fx := mkL (F14.cs N) [] ((loopsOf (bodyOf Try.f14)).getD 0 .skip) 4 [0,1,4,5] (by kernel_rfl) (by kernel_rfl) (by kernel_rfl) F14.s4 (fun n x k => F14.l4 N n x.1 x.2.1 x.2.2.1 x.2.2.2.1 (fun r0 => k (.ret) (Sh.mk F14.e4_0 (r0, ()))) (fun r0 r1 r2 r3 r4 => k (.exit 0) (Sh.mk F14.e4_1 (r0, r1, r2, r3, r4, ())))) (fun _ _ => rfl) (fun _ _ _ => by kernel_rfl) N
noncomputable def F14.C {β : Type} (N : Nat) := (Sealed fun β => @F14.K β).1 β N
theorem F14.C_eq {β : Type} (N : Nat) : @F14.C β N = @F14.K β N := congrFun (congrFun (Sealed fun β => @F14.K β).2 β) N
noncomputable def F14.X (N : Nat) : Ctr Try.prog := mkF 14 Try.f14 F14.fx (F14.cs N) [F14.X4 N] F14.i (fun x k => F14.C N x.1 x.2.1 (fun r0 => k (Sh.mk F14.o0 (r0, ())))) (by intros; rw [F14.C_eq]; kernel_rfl) (by kernel_rfl) (by kernel_rfl) (by kernel_rfl) (by kernel_rfl) rfl (by kernel_rfl) rfl (by kernel_rfl) (by kernel_rfl) (by kernel_rfl) (.dead _ 14) rfl
end Go.Vi.B
/- What flows a certificate tells. -/
namespace Go.Vi.A
/-- One road's flows. -/
def flowC (A : Nat → Bool) (dz : DS) (fz : FS) (lo hi : List Int) (i : Nat) (r : Ro) : Sp :=
  if r.2.2.2.2.2.1 = true then (0, 0) else if A r.1.toNat = true then
    (fLow (drop dz fz (i : Int) r) (lo.getD r.1.toNat 0 - hi.getD r.2.1.toNat 0), fHigh (drop dz fz (i : Int) r) (hi.getD r.1.toNat 0 - lo.getD r.2.1.toNat 0))
  else (-1125899906842624, 1125899906842624)
def ro0 : Ro := (0, 0, 0, 0, false, true, (0, 0), (0, 0))
def flowsL (A : Nat → Bool) (pl : List Pl) (ro : List Ro) (fa : List Fa) (dr : List Do) (sf sd lo hi : List Int) : List Sp :=
  if certE A pl ro fa dr sf sd lo hi = 0 then tab ro.length fun i => flowC A (dr.zip sd) (fa.zip sf) lo hi i (ro.getD i ro0) else []
theorem tab_succ {α : Type} (n : Nat) (f : Nat → α) : tab (n + 1) f = tab n f ++ [f n] := by unfold tab; rw [List.range_succ, List.map_append]; rfl
theorem pipes_has {dz : DS} {fz : FS} : ∀ {l : List Ro} {i m : Nat} {r : Ro}, l[m]? = some r → r.2.2.2.2.2.1 = false → pOf dz fz ((i + m : Nat) : Int) r ∈ pipesF dz fz i l
  | [], _, _, _, h, _ => by simp at h
  | a :: t, i, 0, r, h, hc => by
    rw [List.getElem?_cons_zero] at h
    cases h
    simp only [pipesF, hc, Bool.false_eq_true, if_false]
    exact List.mem_cons_self
  | a :: t, i, m + 1, r, h, hc => by
    rw [List.getElem?_cons_succ] at h
    have := pipes_has (dz := dz) (fz := fz) (i := i + 1) h hc
    rw [show i + 1 + m = i + (m + 1) by omega] at this
    simp only [pipesF]
    split
    · exact this
    · exact List.mem_cons_of_mem _ this
theorem certE_zero {A : Nat → Bool} {pl : List Pl} {ro : List Ro} {fa : List Fa} {dr : List Do} {sf sd lo hi : List Int} (h : certE A pl ro fa dr sf sd lo hi = 0) :
    airE pl ro fa dr = 0 ∧ fitE fa dr sf sd = 0 ∧ lo.length = pl.length ∧ hi.length = pl.length ∧ ferr rngF 0 lo = 0 ∧ ferr rngF 0 hi = 0 ∧ ferr (placeC A (dr.zip sd) (fa.zip sf) ro lo hi) 0 pl = 0 := by
  unfold certE at h
  rw [thn_zero] at h
  obtain ⟨h1, h⟩ := h
  split at h
  · rename_i h2
    split at h
    · rename_i h3
      split at h
      · rename_i h4
        rw [thn_zero] at h
        obtain ⟨h5, h6⟩ := h
        unfold rngE at h5
        split at h5
        · rename_i h7
          split at h5
          · rename_i h8; exact ⟨h1, h2, by omega, by omega, h7, h8, h6⟩
          · cases h5
        · cases h5
      · cases h
    · cases h
  · cases h
end Go.Vi.A
namespace Go.Vi.B
open Go.Proofs Go.Vi.A
set_option linter.unusedVariables false
variable {N : Nat} (hN : 1000 ≤ N) {β : Type}
include hN in
theorem ref01_Spans {a : List Sp} (ha : a.length ≤ 128) (k : Bool → Option β) : F14.C N a a k = k true := by
  rw [F14.C_eq]; unfold F14.K
  simp only [bne_self_eq_false, res]
  obtain ⟨s, hs, e⟩ := lfor (len := a.length) (L := fun n j (_ : Unit) => F14.l4 N n a a false (j : Int) (fun z3 => k z3) fun _ _ _ _ _ => k true) (k := fun _ => k true) (fun _ _ => True)
    (fun n s hs => by simp only [F14.l4, res, Int.lt_irrefl, if_false])
    (fun j s hj hs => by
      obtain ⟨x, hx⟩ := getl hj
      refine ⟨(), trivial, fun n => ?_⟩
      simp only [F14.l4, res, Int.toNat_natCast, hx, ge_some, w_succ (show j < 4000000000 by omega), beq_self_eq_true, Bool.and_self]
      rw [if_pos (by omega), if_pos (by omega), if_pos (by omega)]) 0 () N trivial (by omega) (by omega)
  exact e
include hN in
theorem certify_Flows (pl : List Pl) (ro : List Ro) (fa : List Fa) (dr : List Do) (sf sd lo hi : List Int) (k : List Sp → Option β) :
    F15.C N pl ro fa dr sf sd lo hi k = k (flowsL (airB pl ro) pl ro fa dr sf sd lo hi) := by
  rw [F15.C_eq]; unfold F15.K flowsL
  rw [certify_Check hN]
  by_cases c : certE (airB pl ro) pl ro fa dr sf sd lo hi = 0
  · obtain ⟨h0, h1, h2, h3, h4, h5, h6⟩ := certE_zero c
    have h := AirOk.of h0
    have hs := SetOk.of h1
    have hl := rng_ok (pl := pl) h4 h2
    have hh := rng_ok (pl := pl) h5 h3
    have hm := h.nro
    rw [c, if_pos rfl]
    simp only [bne_self_eq_false, res, certify_Lost hN h0, make_eq hN h hs, tab_rep, Int.toNat_natCast]
    rw [if_pos (show 0 ≤ (ro.length : Int) by omega), if_pos (show (ro.length : Int) ≤ 1000000000 by omega)]
    have hP := pipesF_len (dr.zip sd) (fa.zip sf) ro 0
    obtain ⟨s, hs', e⟩ := lfor (len := (pipesF (dr.zip sd) (fa.zip sf) 0 ro).length) (L := fun n j (s : List Sp) => F15.l6 N n lo hi [] s (tab pl.length fun i => !airB pl ro i) (pipesF (dr.zip sd) (fa.zip sf) 0 ro) (tab pl.length fun p => some (atF p 0 (pipesF (dr.zip sd) (fa.zip sf) 0 ro))) ((pipesF (dr.zip sd) (fa.zip sf) 0 ro).length : Int) (j : Int) fun _ _ _ z18 _ _ _ _ _ _ => k z18) (k := k)
      (fun j s => s = tab ro.length fun i => if ((pipesF (dr.zip sd) (fa.zip sf) 0 ro).take j).any (fun x => x.2.1 == (i : Int)) = true then flowC (airB pl ro) (dr.zip sd) (fa.zip sf) lo hi i (ro.getD i ro0) else (0, 0))
      (fun n s hs => by simp only [F15.l6, res, Int.lt_irrefl, if_false])
      (fun j s hj hs => by
        obtain ⟨x, hx⟩ := getl hj
        obtain ⟨j', r, hr, hxe, hc⟩ := pipes_mem (List.mem_of_getElem? hx)
        rw [Nat.zero_add] at hxe
        have hR := h.road r (List.mem_of_getElem? hr)
        have ok := pOf_ok h sf sd (j' : Int) (List.mem_of_getElem? hr)
        rw [← hxe] at ok
        have f1 : x.1.1 = r.1 := by rw [hxe]; rfl
        have f2 : x.1.2.1 = r.2.1 := by rw [hxe]; rfl
        have f3 : x.2.1 = (j' : Int) := by rw [hxe]; rfl
        have f4 : pdrop x = drop (dr.zip sd) (fa.zip sf) (j' : Int) r := by rw [hxe]; exact funext (pdrop_pOf _ _ _ _)
        obtain ⟨u, hu, u0, u1⟩ := hl.get hR.frm.1 hR.frm.2
        obtain ⟨v, hv, v0, v1⟩ := hl.get hR.to.1 hR.to.2
        obtain ⟨u', hu', u0', u1'⟩ := hh.get hR.frm.1 hR.frm.2
        obtain ⟨v', hv', v0', v1'⟩ := hh.get hR.to.1 hR.to.2
        have hj' : j' < ro.length := (List.getElem?_eq_some_iff.1 hr).1
        have hff := hR.frm
        have eL := pipe_Low (β := β) hN ok (u - v')
        have eH := pipe_High (β := β) hN ok (u' - v)
        refine ⟨_, rfl, fun n => ?_⟩
        subst hs
        have set' : ∀ y, flowC (airB pl ro) (dr.zip sd) (fa.zip sf) lo hi j' r = y → (tab ro.length fun i => if ((pipesF (dr.zip sd) (fa.zip sf) 0 ro).take j).any (fun x => x.2.1 == (i : Int)) = true then flowC (airB pl ro) (dr.zip sd) (fa.zip sf) lo hi i (ro.getD i ro0) else (0, 0)).set j' y = tab ro.length fun i => if ((pipesF (dr.zip sd) (fa.zip sf) 0 ro).take (j + 1)).any (fun x => x.2.1 == (i : Int)) = true then flowC (airB pl ro) (dr.zip sd) (fa.zip sf) lo hi i (ro.getD i ro0) else (0, 0) := fun y hy => tab_set _ (by
            rw [take_snoc hx, List.any_append, getD_eq hr, hy]
            simp [f3]) (fun i hi hne => by
            rw [take_snoc hx, List.any_append]
            have : (x.2.1 == (i : Int)) = false := by rw [f3]; exact beq_eq_false_iff_ne.2 (by omega)
            rw [List.any_cons, this, List.any_nil, Bool.or_self, Bool.or_false])
        simp only [F15.l6, res, Int.toNat_natCast, hx, ge_some, w_succ (show j < 4000000000 by omega), f1, f2, f3, tab_get (show r.1.toNat < pl.length by omega), hu, hv, hu', hv', hR.frm.1, hR.to.1, if_true, tab_get hj', w_id (x := u - v') (by omega) (by omega), w_id (x := u' - v) (by omega) (by omega)]
        rw [f1, f2, f3] at eL eH
        rw [if_pos (by omega), if_pos (by omega), if_pos (by omega)]
        cases ha : airB pl ro r.1.toNat with
        | false =>
          simp only [res]
          rw [set' _ (by unfold flowC; rw [hc, ha]; rfl)]
        | true =>
          simp only [res]
          rw [eL, eH, set' _ (by unfold flowC; rw [hc, ha, f4, getD_eq hu, getD_eq hv, getD_eq hu', getD_eq hv']; rfl), if_pos (by omega)]) 0 (tab ro.length fun _ => (0, 0)) N (tab_congr fun i _ => by simp) (by omega) (by omega)
    refine e.trans ?_
    rw [hs', List.take_of_length_le (Nat.le_refl _)]
    refine congrArg k (tab_congr fun i hi => ?_)
    obtain ⟨r, hr⟩ := getl hi
    rw [getD_eq hr]
    cases hc : r.2.2.2.2.2.1 with
    | true => unfold flowC; rw [hc, if_pos rfl]; simp
    | false =>
      rw [if_pos]
      rw [List.any_eq_true]
      exact ⟨_, pipes_has (dz := dr.zip sd) (fz := fa.zip sf) (i := 0) hr hc, by rw [Nat.zero_add]; exact beq_self_eq_true _⟩
  · rw [if_neg c]
    simp only [show (certE (airB pl ro) pl ro fa dr sf sd lo hi != 0) = true from bne_iff_ne.2 c, res]
include hN in
theorem ref11_Flows (pl : List Pl) (ro : List Ro) (fa : List Fa) (dr : List Do) (sf sd lo hi : List Int) (k : List Sp → Option β) :
    F16.C N pl ro fa dr sf sd lo hi k = k (flowsL (airB pl ro) pl ro fa dr sf sd lo hi) := by
  rw [F16.C_eq]; unfold F16.K flowsL
  rw [ref11_Check hN]
  by_cases c : certE (airB pl ro) pl ro fa dr sf sd lo hi = 0
  · obtain ⟨h0, h1, h2, h3, h4, h5, h6⟩ := certE_zero c
    have h := AirOk.of h0
    have hs := SetOk.of h1
    have hl := rng_ok (pl := pl) h4 h2
    have hh := rng_ok (pl := pl) h5 h3
    have hm := h.nro
    rw [c, if_pos rfl]
    simp only [bne_self_eq_false, res, ref01_Airy hN h.npl hm h.rd]
    obtain ⟨s, hs', e⟩ := lfor (len := ro.length) (L := fun n j (s : List Sp) => F16.l6 N n pl ro fa dr sf sd lo hi [] (tab pl.length (airB pl ro)) s (j : Int) fun _ _ _ _ _ _ _ _ _ _ z22 _ _ => k z22) (k := k)
      (fun j s => s = tab j fun i => flowC (airB pl ro) (dr.zip sd) (fa.zip sf) lo hi i (ro.getD i ro0))
      (fun n s hs => by simp only [F16.l6, res, Int.lt_irrefl, if_false])
      (fun j s hj hs' => by
        obtain ⟨r, hr⟩ := getl hj
        have hR := h.road r (List.mem_of_getElem? hr)
        obtain ⟨u, hu, u0, u1⟩ := hl.get hR.frm.1 hR.frm.2
        obtain ⟨v, hv, v0, v1⟩ := hl.get hR.to.1 hR.to.2
        obtain ⟨u', hu', u0', u1'⟩ := hh.get hR.frm.1 hR.frm.2
        obtain ⟨v', hv', v0', v1'⟩ := hh.get hR.to.1 hR.to.2
        have hff := hR.frm
        have hr' : ro[((j : Nat) : Int).toNat]? = some r := by rw [Int.toNat_natCast]; exact hr
        have eL := fun d k => ref09_Lowest (β := β) hN h hs (Int.natCast_nonneg j) hr' d k
        have eH := fun d k => ref09_Highest (β := β) hN h hs (Int.natCast_nonneg j) hr' d k
        refine ⟨_, rfl, fun n => ?_⟩
        subst hs'
        rw [tab_succ, getD_eq hr]
        simp only [F16.l6, F44.C_eq, F44.K, res, tab_len, Int.toNat_natCast, hr, ge_some, w_succ (show j < 4000000000 by omega), tab_get (show r.1.toNat < pl.length by omega), hu, hv, hu', hv', hR.frm.1, hR.to.1, if_true, w_id (x := u - v') (by omega) (by omega), w_id (x := u' - v) (by omega) (by omega), eL, eH]
        rw [if_pos (by omega), if_pos (by omega), if_pos (by omega)]
        unfold flowC
        cases hc : r.2.2.2.2.2.1 with
        | true => simp only [res, if_true]; rw [if_pos (by omega)]
        | false =>
          simp only [res, Bool.false_eq_true, if_false]
          cases ha : airB pl ro r.1.toNat with
          | false => simp only [res, Bool.false_eq_true, if_false]
          | true => simp only [res, if_true, getD_eq hu, getD_eq hv, getD_eq hu', getD_eq hv']; rw [if_pos (by omega)]) 0 [] N rfl (by omega) (by omega)
    refine e.trans ?_
    rw [hs']
  · rw [if_neg c]
    simp only [show (certE (airB pl ro) pl ro fa dr sf sd lo hi != 0) = true from bne_iff_ne.2 c, res]
theorem flowsL_len (A : Nat → Bool) (pl : List Pl) (ro : List Ro) (fa : List Fa) (dr : List Do) (sf sd lo hi : List Int) : (flowsL A pl ro fa dr sf sd lo hi).length ≤ 128 := by
  unfold flowsL
  split
  · rename_i c
    rw [tab_len]
    exact (AirOk.of (certE_zero c).1).nro
  · simp
end Go.Vi.B
/- minecontrol/minecontrollaw11.awake -/
namespace Go.Vi.B
open Go.Proofs
set_option linter.unusedVariables false
set_option maxRecDepth 100000
abbrev F17.i : Sh := []
abbrev F17.o0 : Sh := [(0, .one .bool)]
noncomputable def F17.K {β : Type} (N : Nat) (k0 : Bool → Option β) : Option β :=
 F15.C N [(0, true), (0, false)] [(1, (0, (1, (1, (false, (false, ((1, 1), ((-100), (-100)))))))))] [] [] [] [] [0, 100] [0, 100] fun r1 =>
 F12.C N [(0, true), (0, false)] [(1, (0, (1, (1, (false, (false, ((1, 1), ((-100), (-100)))))))))] [] [] [] [] [0, 100] [0, 100] fun r2 =>
 bl (r2 = 0) (k0 false) <|
 F12.C N [(0, true), (0, false)] [(1, (0, (1, (1, (false, (false, ((1, 1), ((-100), (-100)))))))))] [] [] [] [] [0, 100] [0, 99] fun r3 =>
 bl (r3 = 12) (k0 false) <|
 F14.C N r1 [(0, 0)] fun r4 =>
 k0 r4
noncomputable def F17.fx : Fx := ⟨Try.prog, [], [], [(0,[]),(1,[1]),(2,[2]),(3,[2,3]),(4,[0])], 42, []⟩
noncomputable def F17.cs (N : Nat) : List (Ctr Try.prog) := [F15.X N, F12.X N, F14.X N]
noncomputable def F17.C {β : Type} (N : Nat) := (Sealed fun β => @F17.K β).1 β N
theorem F17.C_eq {β : Type} (N : Nat) : @F17.C β N = @F17.K β N := congrFun (congrFun (Sealed fun β => @F17.K β).2 β) N
noncomputable def F17.X (N : Nat) : Ctr Try.prog := mkF 17 Try.f17 F17.fx (F17.cs N) [] F17.i (fun x k => F17.C N (fun r0 => k (Sh.mk F17.o0 (r0, ())))) (by intros; rw [F17.C_eq]; kernel_rfl) (by kernel_rfl) (by kernel_rfl) (by kernel_rfl) (by kernel_rfl) rfl (by kernel_rfl) rfl (by kernel_rfl) (by kernel_rfl) (by kernel_rfl) (.dead _ 17) rfl
end Go.Vi.B
/- The sanity check of chapter 11. -/
namespace Go.Vi.B
open Go.Proofs Go.Vi.A
set_option linter.unusedVariables false
set_option linter.unusedSimpArgs false
set_option maxRecDepth 100000
variable {β : Type} {N : Nat} (hN : 1000 ≤ N)
theorem air_awake : airB [(0, true), (0, false)] [(1, (0, (1, (1, (false, (false, ((1, 1), ((-100), (-100)))))))))] = fun i => decide (i < 2) :=
  funext fun i => (air_of_shut (f := fun i => decide (i < 2)) (fun i p hp _ => by
    have := (List.getElem?_eq_some_iff.1 hp).1
    simpa using this) (fun i hi => by
    rw [decide_eq_true_eq] at hi
    have h0 : Air [(0, true), (0, false)] [(1, (0, (1, (1, (false, (false, ((1, 1), ((-100), (-100)))))))))] 0 := .top (p := (0, true)) rfl rfl
    rcases (show i = 0 ∨ i = 1 by omega) with e | e
    · subst e; exact h0
    · subst e; exact .back (r := (1, (0, (1, (1, (false, (false, ((1, 1), ((-100), (-100)))))))))) (by simp) rfl h0) (fun r hr _ => by
    rw [List.mem_singleton] at hr; subst hr; rfl) i).symm
include hN in
theorem awake11 (k : Bool → Option β) : F17.C N k = k true := by
  rw [F17.C_eq]; unfold F17.K
  have e1 : certE (fun i => decide (i < 2)) [(0, true), (0, false)] [(1, (0, (1, (1, (false, (false, ((1, 1), ((-100), (-100)))))))))] [] [] [] [] [0, 100] [0, 100] = 0 := by decide +kernel
  have e2 : certE (fun i => decide (i < 2)) [(0, true), (0, false)] [(1, (0, (1, (1, (false, (false, ((1, 1), ((-100), (-100)))))))))] [] [] [] [] [0, 100] [0, 99] = 12 := by decide +kernel
  have e3 : flowsL (fun i => decide (i < 2)) [(0, true), (0, false)] [(1, (0, (1, (1, (false, (false, ((1, 1), ((-100), (-100)))))))))] [] [] [] [] [0, 100] [0, 100] = [(0, 0)] := by decide +kernel
  rw [certify_Flows hN, certify_Check hN, air_awake, e1, e3]
  simp only [decide_true, res]
  rw [certify_Check hN, air_awake, e2]
  simp only [decide_true, res]
  simp only [if_true]
  rw [ref01_Spans hN (by decide)]
end Go.Vi.B
