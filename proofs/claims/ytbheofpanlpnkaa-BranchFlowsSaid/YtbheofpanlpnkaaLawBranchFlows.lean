/- It is proved that branch.Flow answers what the document's Flow answers, as the law BranchFlows states it; there are no conditions beyond those of the given row. -/
import Derived.Test.YtbheofpanlpnkaaZd
import Derived.Test.YtbheofpanlpnkaaRows
import Derived.WalkKit
import Derived.ProofKit
import Derived.OpenShut
import Derived.ShutString
import Derived.ChangeOld
import Derived.Below
import Derived.SizedLaws
/- minecontrol/minecontrollaw09.BranchFlows -/
namespace Go.Vi.B
open Go.Proofs
set_option linter.unusedVariables false
set_option maxRecDepth 100000
abbrev F5.i : Sh := [(0, .one (.lst .pin 5 (.int .u8))), (2, .one .i), (4, .one .i)]
abbrev F5.o0 : Sh := [(0, .one .bool)]
noncomputable def F5.l6 {β : Type} (N : Nat) : Nat → Int → Bool → (List Pl) → (List Ro) → (List Fa) → (List Do) → (List Int) → (List Int) → (List Int) → (List Int) → Int → (List Int) → Int → Int → (Bool → Option β) → (Int → Bool → List Pl → List Ro → List Fa → List Do → List Int → List Int → List Int → List Int → Int → List Int → Int → Int → Bool → Option β) → Option β
 | 0, _, _, _, _, _, _, _, _, _, _, _, _, _, _, _, _ => none
 | n + 1, v0, v1, v2, v3, v4, v5, v6, v7, v8, v9, v10, v11, v12, v13, k0, k1 =>
  bl (v13 < v12) (k1 v0 v1 v2 v3 v4 v5 v6 v7 v8 v9 v10 v11 v12 v13 (decide (v13 < v12))) <|
  ck (0 ≤ v13) <|
  ge (v11[v13.toNat]?) fun _ =>
  ge (v11[v13.toNat]?) fun x2 =>
  F25.C N v2 v3 v4 v5 v6 v7 v10 x2 fun r3 r4 =>
  F26.C N v2 v3 v4 v5 v6 v7 v10 x2 fun r5 r6 =>
  br (!((r3 == r5) && ((r4 == r6) && true))) (k0 false) <|
  F25.C N v2 v3 v4 v5 v8 v9 v10 x2 fun r7 r8 =>
  F26.C N v2 v3 v4 v5 v8 v9 v10 x2 fun r9 r10 =>
  br (!((r7 == r9) && ((r8 == r10) && true))) (k0 false) <|
  F5.l6 N n v0 v1 v2 v3 v4 v5 v6 v7 v8 v9 v10 v11 v12 (w (v13 + 1)) k0 k1
noncomputable def F5.K {β : Type} (N : Nat) (a0 : List Int) (a1 a2 : Int) (k0 : Bool → Option β) : Option β :=
 F10.C N a0 fun r1 r2 =>
 F11.C N r1 r2 fun _ _ r5 r6 r7 r8 r9 r10 r11 r12 =>
 F21.C N r11 r12 r5 r6 r7 r8 fun r13 r14 _ _ =>
 F22.C N a1 (w ((r6.length : Int) + 1)) fun r17 =>
 F22.C N a2 100000 fun r18 =>
 F22.C N a2 281474976710657 fun r19 =>
 F5.l6 N N a1 false r5 r6 r7 r8 r9 r10 r13 r14 r17 [(w (r18 - 50000)), (w (r19 - 140737488355328)), 140737488355328, (-140737488355328)] ([(w (r18 - 50000)), (w (r19 - 140737488355328)), 140737488355328, (-140737488355328)].length : Int) 0 (fun z20 => k0 z20) fun z21 _ z23 z24 z25 z26 z27 z28 _ _ _ _ _ _ _ =>
 F25.C N z23 z24 z25 z26 z27 z28 z21 0 fun r36 r37 =>
 F26.C N z23 z24 z25 z26 z27 z28 z21 0 fun r38 r39 =>
 bl ((r36 == r38) && ((r37 == r39) && true)) (k0 false) <|
 F16.C N fun r40 =>
 k0 r40
noncomputable def F5.fx : Fx := ⟨Try.prog, [], [10], [(0,[0,1,2,6]),(1,[1,2,6,7]),(2,[1,2,6,7,8,9]),(3,[1,2,6,8,9,11]),(4,[1,2,6,8,9,11,12]),(5,[1,6,8,9,11,12,39,40,41]),(6,[1,6,8,9,11,12,39,40,41,42]),(7,[1,6,8,9,11,12,14,39,40,41]),(8,[1,6,8,9,11,12,39,40,41,68]),(9,[6]),(10,[1,6,8,9,11,12,39,40,41]),(11,[6])], 82, []⟩
noncomputable def F5.cs (N : Nat) : List (Ctr Try.prog) := [F10.X N, F11.X N, F21.X N, F22.X N, F25.X N, F26.X N, F16.X N]
abbrev F5.s6 : Sh := [(2, .one .i), (12, .one .bool), (16, .one (.addr 8 0)), (17, .slot false [.lst .own 70 kd1, .lst .own 64 kd8, .lst .own 44 kd11, .lst .own 46 kd13]), (18, .one (.addr 9 0)), (19, .slot false [.lst .own 3 .i, .lst .own 3 .i]), (22, .one (.addr 11 0)), (23, .slot false [.lst .own 3 .i, .lst .own 3 .i]), (24, .one .i), (78, .one (.view 39 0)), (79, .slot true [.lst .own 3 .i]), (80, .one .i), (82, .one .i)]
abbrev F5.e6_0 : Sh := [(12, .one .bool)]
abbrev F5.e6_1 : Sh := [(2, .one .i), (12, .one .bool), (16, .one (.addr 8 0)), (17, .slot false [.lst .own 70 kd1, .lst .own 64 kd8, .lst .own 44 kd11, .lst .own 46 kd13]), (18, .one (.addr 9 0)), (19, .slot false [.lst .own 3 .i, .lst .own 3 .i]), (22, .one (.addr 11 0)), (23, .slot false [.lst .own 3 .i, .lst .own 3 .i]), (24, .one .i), (78, .one (.view 39 0)), (79, .slot true [.lst .own 3 .i]), (80, .one .i), (82, .one .i), (84, .one .bool)]
noncomputable def F5.X6 (N : Nat) : LpC Try.prog F5.fx := mkL (F5.cs N) [] ((loopsOf (bodyOf Try.f5)).getD 0 .skip) 6 (by kernel_rfl) (by kernel_rfl) (by kernel_rfl) F5.s6 (fun n x k => F5.l6 N n x.1 x.2.1 x.2.2.1 x.2.2.2.1 x.2.2.2.2.1 x.2.2.2.2.2.1 x.2.2.2.2.2.2.1 x.2.2.2.2.2.2.2.1 x.2.2.2.2.2.2.2.2.1 x.2.2.2.2.2.2.2.2.2.1 x.2.2.2.2.2.2.2.2.2.2.1 x.2.2.2.2.2.2.2.2.2.2.2.1 x.2.2.2.2.2.2.2.2.2.2.2.2.1 x.2.2.2.2.2.2.2.2.2.2.2.2.2.1 (fun r0 => k (.ret) (Sh.mk F5.e6_0 (r0, ()))) (fun r0 r1 r2 r3 r4 r5 r6 r7 r8 r9 r10 r11 r12 r13 r14 => k (.exit 0) (Sh.mk F5.e6_1 (r0, r1, r2, r3, r4, r5, r6, r7, r8, r9, r10, r11, r12, r13, r14, ())))) (fun _ _ => rfl) (fun _ _ _ => by kernel_rfl) N
noncomputable def F5.C {β : Type} (N : Nat) := (Sealed fun β => @F5.K β).1 β N
theorem F5.C_eq {β : Type} (N : Nat) : @F5.C β N = @F5.K β N := congrFun (congrFun (Sealed fun β => @F5.K β).2 β) N
noncomputable def F5.X (N : Nat) : Ctr Try.prog := mkF 5 Try.f5 F5.fx (F5.cs N) [F5.X6 N] F5.i (fun x k => F5.C N x.1 x.2.1 x.2.2.1 (fun r0 => k (Sh.mk F5.o0 (r0, ())))) (by intros; rw [F5.C_eq]; kernel_rfl) (by kernel_rfl) (by kernel_rfl) (by kernel_rfl) (by kernel_rfl) rfl (by kernel_rfl) rfl (by kernel_rfl) (by kernel_rfl) (by kernel_rfl) (.dead _ 5) rfl
end Go.Vi.B
/- BranchFlows, its residual: true. -/
namespace Go.Vi.B
open Go.Proofs Go.Vi.A
set_option linter.unusedVariables false
set_option linter.unusedSimpArgs false
variable {β : Type} {N : Nat} (hN : 1000 ≤ N)
include hN in
theorem branchFlows {a0 : List Int} (h0 : ∀ x ∈ a0, 0 ≤ x ∧ x ≤ 255) (a1 a2 : Int) (k : Bool → Option β) : F5.C N a0 a1 a2 k = k true := by
  obtain ⟨l, c0, e0⟩ := draw_New (β := β) (N := N) h0
  obtain ⟨pl, ro, fa, dr, sf, sd, xp, xq, a3, c1, m1, e1⟩ := draw_Made (β := β) hN c0
  have n1 := m1.nro; have n2 := m1.nfa; have n3 := m1.ndr
  obtain ⟨tf, td, a4, c2, s2, e2⟩ := draw_Setting (β := β) hN c1 pl ro (fa := fa) (dr := dr) (by omega) (by omega) (fun d hd => by have := m1.rest d hd; omega)
  obtain ⟨r, _, _, e3⟩ := draw_Mod (β := β) (N := N) a1 ((ro.length : Int) + 1) (by omega)
  obtain ⟨s, _, _, e4⟩ := draw_Mod (β := β) (N := N) a2 100000 (by omega)
  obtain ⟨t, _, _, e5⟩ := draw_Mod (β := β) (N := N) a2 281474976710657 (by omega)
  rw [F5.C_eq]; unfold F5.K
  rw [e0, e1, e2, w_id (x := (ro.length : Int) + 1) (by omega) (by omega), e3, e4, e5]
  have key : ∀ (xs : List Int), xs.length = 4 → ∀ K, F5.l6 N N a1 false pl ro fa dr sf sd tf td r xs (xs.length : Int) 0 (fun z => k z) K = K a1 false pl ro fa dr sf sd tf td r xs (xs.length : Int) (xs.length : Int) false := by
    intro xs hx K
    obtain ⟨_, _, e⟩ := lfor (σ := Unit) (len := xs.length) (L := fun n j _ => F5.l6 N n a1 false pl ro fa dr sf sd tf td r xs (xs.length : Int) (j : Int) (fun z => k z) K) (k := fun _ => K a1 false pl ro fa dr sf sd tf td r xs (xs.length : Int) (xs.length : Int) false) (fun _ _ => True)
      (fun n s _ => by simp only [F5.l6, res, Int.lt_irrefl, if_false, decide_false])
      (fun j s hj _ => ⟨(), trivial, fun n => by
        obtain ⟨x, hxj⟩ := getl hj
        simp only [F5.l6, res, Int.toNat_natCast, hxj, ge_some, branch_Flow hN, ref09_Flow hN, beq_self_eq_true, Bool.and_self, w_succ (show j < 4000000000 by omega)]
        rw [if_pos (by omega), if_pos (by omega)]⟩) 0 () N trivial (by omega) (by omega)
    exact e
  refine (key _ rfl _).trans ?_
  simp only [branch_Flow hN, ref09_Flow hN, beq_self_eq_true, Bool.and_self, res]
  exact awake hN k
end Go.Vi.B
namespace Go.Proofs.Ytbheofpanlpnkaa.branchFlows
open Go.ChangeShapes Go.WideShapes Go.ChangeAt Go.RowKit Go.Vi Go.Vi.A Go.Vi.B
set_option linter.unusedVariables false
theorem own : ownKnob Try.prog.godebug = none := by kernel_rfl
theorem laidOut : laidOutB Try.prog = true := by kernel_rfl
theorem o5 : Opn Try.prog 5 (.int .u8) := Opn.int Try.underlying5 (by kernel_rfl)
theorem o22 : Opn Try.prog 22 (.fz 5 (.int .u8)) := Opn.slice Try.underlying22 (by kernel_rfl) o5
set_option maxHeartbeats 2000000 in
set_option maxRecDepth 100000 in
theorem lifted (os : Os) (started : os.Started) (H : Type) (enc : TypeId × Value → H) :
    ReturnsInHanded {} Try.checked os 5 .any (Rows.branchFlowsSpec.pre6 enc Try.prog Try.f5 Rows.branchFlowsRow.domain false) (Rows.branchFlowsSpec.post enc Try.prog Try.f5 false true false false) := by
  refine returnsInHanded_of_change_sized (C := Try.checked) own started (by kernel_rfl) Try.func5
    (ChangeSpec.witness6 (enc := enc) (C := Try.checked) false ⟨#[], #[.slice none 0 0, .int .i64 0, .int .i64 0], []⟩ 8 (by kernel_rfl) (by kernel_rfl) (by kernel_rfl) (by kernel_rfl)) ?_
  intro W base args ds gs before hval0 hW hcnd hsz0 _
  have hval : ∀ (j : Nat) t v, Try.f5.params[j]? = some t → args[j]? = some v → Value.okWide Try.prog W .any base t v := hval0
  have hW' := hW
  obtain ⟨p, q, hA0, hV, rfl, hfz, hnd⟩ := hW
  have hA : DataW.TrodAll enc Try.prog W 0 (fun _ => true) true Try.f5.params.toList args.toList ds p := hA0
  rw [Try.params5] at hA hval
  obtain ⟨v0, vs0, d0, ds0, p0, q0, hargs, rfl, rfl, h0, r0⟩ := trodAll_cons hA
  obtain ⟨v1, vs1, d1, ds1, p1, q1, rfl, rfl, rfl, h1, r1⟩ := trodAll_cons r0
  obtain ⟨v2, vs2, d2, ds2, p2, q2, rfl, rfl, rfl, h2, r2⟩ := trodAll_cons r1
  obtain ⟨rfl, rfl, rfl⟩ := trodAll_nil r2
  obtain rfl : args = #[v0, v1, v2] := by cases args; simp_all
  obtain ⟨rfl, rfl⟩ := trodVars_none hV
  have k0 := h0
  have lt0 : ∀ x ∈ p0, x.block < W.heap.size := by obtain ⟨m, hm⟩ := k0; exact DataW.trod_lt m _ _ _ hm
  have k1 := h1
  have lt1 : ∀ x ∈ p1, x.block < W.heap.size := by obtain ⟨m, hm⟩ := k1; exact DataW.trod_lt m _ _ _ hm
  have k2 := h2
  have lt2 : ∀ x ∈ p2, x.block < W.heap.size := by obtain ⟨m, hm⟩ := k2; exact DataW.trod_lt m _ _ _ hm
  obtain ⟨A0, len0, cap0, rfl⟩ := okWide_slice Try.underlying22 (hval 0 22 v0 rfl rfl)
  obtain ⟨a0, f0, rp0, _, w0⟩ := o22.arg h0
  obtain ⟨a1, rfl, rfl, rfl, w1⟩ := open_int Try.underlying3 (hval 1 3 v1 rfl rfl) h1
  obtain ⟨a2, rfl, rfl, rfl, w2⟩ := open_int Try.underlying3 (hval 2 3 v2 rfl rfl) h2
  clear hA0 hval0 hsz0
  have g : GoF Try.prog 5 (mkEnt 0 [.one (.lst .pin 5 (.int .u8) a0), .one (.sc (.int .i64 a1)), .one (.sc (.int .i64 a2))]) [(0, .one (.sc (.bool true)))] := (F5.X 1000).ok _ _ ((by kernel_rfl : (F5.X 1000).run (mkEnt 0 [.one (.lst .pin 5 (.int .u8) a0), .one (.sc (.int .i64 a1)), .one (.sc (.int .i64 a2))]) some = F5.C 1000 a0 a1 a2 (fun r0 => some (Sh.mk F5.o0 (r0, ())))).trans (branchFlows (Nat.le_refl _) (fun x hx => wf_u8 (w0.2 x hx)) a1 a2 _))
  refine (g.lawE (args := [.slice A0 len0 cap0, .int .i64 a1, .int .i64 a2]) ⟨VOk.list (by decide) rp0, ⟨VOk.int a1, ⟨VOk.int a2, trivial⟩⟩⟩).mono fun e W' ⟨he, bel⟩ => ?_
  subst he
  exact ⟨_, rfl, _, _, _, [], _, [], hW', trodAll_mk1 (shut_bool Try.underlying4 _), (trodAll_cons_mk (Below.trod laidOut (by kernel_rfl) (of_decide_eq_true (by kernel_rfl)) k0 bel lt0) (trodAll_cons_mk (Below.trod laidOut (by kernel_rfl) (of_decide_eq_true (by kernel_rfl)) k1 bel lt1) (trodAll_cons_mk (Below.trod laidOut (by kernel_rfl) (of_decide_eq_true (by kernel_rfl)) k2 bel lt2) trodAll_mk0))), rfl, bel.frame _, fun h => by cases h⟩
theorem over : Rows.branchFlowsRow.holds Try.pinned (OpenSpec.ofChange Rows.branchFlowsSpec) :=
  OpenClaim.holds_of_wide 5 Try.f5 rfl rfl rfl rfl rfl rfl rfl ⟨rfl, rfl, rfl, rfl, rfl⟩ rfl rfl rfl rfl rfl (by kernel_rfl) Try.func5 (by kernel_rfl)
    (of_decide_eq_true (by kernel_rfl)) (by unfold Func.isWrapper; first | (rw [if_pos (by decide +kernel)]; kernel_rfl) | (rw [if_neg (by decide +kernel)]; exact ⟨rfl, rfl⟩))
    (fun os started H enc _ => lifted os started H enc)
theorem proved : Rows.BranchFlowsSaid := over
end Go.Proofs.Ytbheofpanlpnkaa.branchFlows
namespace Go.Proofs.Ytbheofpanlpnkaa
/-- The row, under a short name, for the claim. -/
theorem branchFlows_holds : Rows.BranchFlowsSaid := branchFlows.proved
end Go.Proofs.Ytbheofpanlpnkaa
