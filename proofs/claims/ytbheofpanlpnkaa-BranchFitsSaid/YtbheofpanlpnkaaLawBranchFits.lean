/- It is proved that branch.Fits answers what the document's Fits answers, as the law BranchFits states it; there are no conditions beyond those of the given row. -/
import Derived.Test.YtbheofpanlpnkaaZd
import Derived.Test.YtbheofpanlpnkaaRows
import Derived.WalkKit
import Derived.ProofKit
import Derived.OpenShut
import Derived.ShutString
import Derived.ChangeOld
import Derived.Below
import Derived.SizedLaws
/- minecontrol/minecontrollaw09.BranchFits -/
namespace Go.Vi.B
open Go.Proofs
set_option linter.unusedVariables false
set_option maxRecDepth 100000
abbrev F6.i : Sh := [(0, .one (.lst .pin 5 (.int .u8))), (2, .agg [.lst .frz 3 .i, .lst .frz 3 .i]), (4, .one .i), (6, .one .i)]
abbrev F6.o0 : Sh := [(0, .one .bool)]
noncomputable def F6.K {β : Type} (N : Nat) (a0 a1 a2 : List Int) (a3 a4 : Int) (k0 : Bool → Option β) : Option β :=
 F10.C N a0 fun r1 r2 =>
 F11.C N r1 r2 fun r3 r4 r5 r6 r7 r8 r9 r10 _ _ =>
 F27.C N r5 r6 r7 r8 r9 r10 r3 r4 fun r13 =>
 br (r13 != 0) (k0 false) <|
 ck (0 + r3.length ≤ 1000000000) <|
 ck (0 + r4.length ≤ 1000000000) <|
 F22.C N a3 (w ((r3.length : Int) + (r4.length : Int))) fun r14 =>
 br (r14 < (r3.length : Int)) (
  ck (0 ≤ r14) <|
  ge (r3[r14.toNat]?) fun _ =>
  ge (r3[r14.toNat]?) fun x16 =>
  F22.C N a4 200 fun r17 =>
  ck (0 ≤ r14) <|
  ge (r3[r14.toNat]?) fun _ =>
  ge (r3[r14.toNat]?) fun _ =>
  F27.C N r5 r6 r7 r8 r9 r10 (r3.set r14.toNat (w (x16 + (w (r17 - 100))))) r4 fun r20 =>
  F28.C N r5 r6 r7 r8 r9 r10 (r3.set r14.toNat (w (x16 + (w (r17 - 100))))) r4 fun r21 =>
  bl (r20 = r21) (k0 false) <|
  F27.C N r5 r6 r7 r8 r9 r10 a1 a2 fun r22 =>
  F28.C N r5 r6 r7 r8 r9 r10 a1 a2 fun r23 =>
  bl (r22 = r23) (k0 false) <|
  F16.C N fun r24 =>
  k0 r24) <|
 ck (0 ≤ (w (r14 - (r3.length : Int)))) <|
 ge (r4[(w (r14 - (r3.length : Int))).toNat]?) fun _ =>
 ge (r4[(w (r14 - (r3.length : Int))).toNat]?) fun x26 =>
 F22.C N a4 5 fun r27 =>
 ck (0 ≤ (w (r14 - (r3.length : Int)))) <|
 ge (r4[(w (r14 - (r3.length : Int))).toNat]?) fun _ =>
 ge (r4[(w (r14 - (r3.length : Int))).toNat]?) fun _ =>
 F27.C N r5 r6 r7 r8 r9 r10 r3 (r4.set ((w (r14 - (r3.length : Int))).toNat) (w (x26 + (w (r27 - 2))))) fun r30 =>
 F28.C N r5 r6 r7 r8 r9 r10 r3 (r4.set ((w (r14 - (r3.length : Int))).toNat) (w (x26 + (w (r27 - 2))))) fun r31 =>
 bl (r30 = r31) (k0 false) <|
 F27.C N r5 r6 r7 r8 r9 r10 a1 a2 fun r32 =>
 F28.C N r5 r6 r7 r8 r9 r10 a1 a2 fun r33 =>
 bl (r32 = r33) (k0 false) <|
 F16.C N fun r34 =>
 k0 r34
noncomputable def F6.fx : Fx := ⟨Try.prog, [], [10], [(0,[0,2,3,5]),(1,[2,3,5,9,10,11]),(2,[2,3,5,9,10,11,25]),(3,[8]),(4,[2,3,5,9,10,12]),(5,[3,5,9,10,12,13]),(6,[3,5,9,10,12,13,46]),(7,[5,9,10,12]),(8,[5,9,10,12]),(9,[8])], 94, []⟩
noncomputable def F6.cs (N : Nat) : List (Ctr Try.prog) := [F10.X N, F11.X N, F27.X N, F22.X N, F28.X N, F16.X N]
noncomputable def F6.C {β : Type} (N : Nat) := (Sealed fun β => @F6.K β).1 β N
theorem F6.C_eq {β : Type} (N : Nat) : @F6.C β N = @F6.K β N := congrFun (congrFun (Sealed fun β => @F6.K β).2 β) N
noncomputable def F6.X (N : Nat) : Ctr Try.prog := mkF 6 Try.f6 F6.fx (F6.cs N) [] F6.i (fun x k => F6.C N x.1 x.2.1 x.2.2.1 x.2.2.2.1 x.2.2.2.2.1 (fun r0 => k (Sh.mk F6.o0 (r0, ())))) (by intros; rw [F6.C_eq]; kernel_rfl) (by kernel_rfl) (by kernel_rfl) (by kernel_rfl) (by kernel_rfl) rfl (by kernel_rfl) rfl (by kernel_rfl) (by kernel_rfl) (by kernel_rfl) (.dead _ 6) rfl
end Go.Vi.B
/- BranchFits, its residual: true. -/
namespace Go.Vi.B
open Go.Proofs Go.Vi.A
set_option linter.unusedVariables false
set_option linter.unusedSimpArgs false
variable {β : Type} {N : Nat} (hN : 1000 ≤ N)
theorem MadeOk.lens {pl : List Pl} {ro : List Ro} {fa : List Fa} {dr : List Do} {sf sd xp xq : List Int} (h : MadeOk pl ro fa dr sf sd xp xq) : xp.length = pl.length ∧ xq.length = ro.length := by
  have := h.st
  unfold stE at this
  split at this
  · split at this
    · omega
    · exact absurd this (by decide)
  · exact absurd this (by decide)
include hN in
theorem branchFits {a0 : List Int} (h0 : ∀ x ∈ a0, 0 ≤ x ∧ x ≤ 255) (a1 a2 : List Int) (a3 a4 : Int) (k : Bool → Option β) : F6.C N a0 a1 a2 a3 a4 k = k true := by
  obtain ⟨l, c0, e0⟩ := draw_New (β := β) (N := N) h0
  obtain ⟨pl, ro, fa, dr, sf, sd, xp, xq, a5, c1, m1, e1⟩ := draw_Made (β := β) hN c0
  have n0 := m1.npl; have n0' := m1.npl1; have n1 := m1.nro
  obtain ⟨l1, l2⟩ := MadeOk.lens m1
  obtain ⟨r, x3, _, e3⟩ := draw_Mod (β := β) (N := N) a3 ((xp.length : Int) + (xq.length : Int)) (by omega)
  have r0 := x3.lo; have r1 := x3.hi (by omega)
  rw [F6.C_eq]; unfold F6.K
  rw [e0, e1, branch_Fits hN, m1.fits, w_id (x := (xp.length : Int) + (xq.length : Int)) (by omega) (by omega), e3]
  simp only [res, if_true, branch_Fits hN, ref09_Fits hN, awake hN]
  rw [if_pos (by omega), if_pos (by omega)]
  by_cases c : r < (xp.length : Int)
  · obtain ⟨x, hx⟩ := geti (xs := xp) r0 c
    obtain ⟨s, _, _, e4⟩ := draw_Mod (β := β) (N := N) a4 200 (by omega)
    rw [if_pos c, if_pos r0]
    simp only [hx, ge_some, e4, if_true, r0]
  · obtain ⟨x, hx⟩ := geti (xs := xq) (i := r - xp.length) (by omega) (by omega)
    obtain ⟨s, _, _, e4⟩ := draw_Mod (β := β) (N := N) a4 5 (by omega)
    rw [if_neg c, w_id (x := r - xp.length) (by omega) (by omega), if_pos (by omega)]
    simp only [hx, ge_some, e4, if_true, show (0 : Int) ≤ r - xp.length by omega]
end Go.Vi.B
namespace Go.Proofs.Ytbheofpanlpnkaa.branchFits
open Go.ChangeShapes Go.WideShapes Go.ChangeAt Go.RowKit Go.Vi Go.Vi.A Go.Vi.B
set_option linter.unusedVariables false
theorem own : ownKnob Try.prog.godebug = none := by kernel_rfl
theorem laidOut : laidOutB Try.prog = true := by kernel_rfl
theorem o5 : Opn Try.prog 5 (.int .u8) := Opn.int Try.underlying5 (by kernel_rfl)
theorem o22 : Opn Try.prog 22 (.fz 5 (.int .u8)) := Opn.slice Try.underlying22 (by kernel_rfl) o5
theorem o3 : Opn Try.prog 3 (.int .i64) := Opn.int Try.underlying3 (by kernel_rfl)
theorem o31 : Opn Try.prog 31 (.fz 3 (.int .i64)) := Opn.slice Try.underlying31 (by kernel_rfl) o3
theorem o37 : Opn Try.prog 37 (.pair (.fz 3 (.int .i64)) (.fz 3 (.int .i64))) := Opn.struct Try.underlying37 (by kernel_rfl) (OpnL.cons rfl o31 (OpnL.one rfl o31))
set_option maxHeartbeats 2000000 in
set_option maxRecDepth 100000 in
theorem lifted (os : Os) (started : os.Started) (H : Type) (enc : TypeId × Value → H) :
    ReturnsInHanded {} Try.checked os 6 .any (Rows.branchFitsSpec.pre6 enc Try.prog Try.f6 Rows.branchFitsRow.domain false) (Rows.branchFitsSpec.post enc Try.prog Try.f6 false true false false) := by
  refine returnsInHanded_of_change_sized (C := Try.checked) own started (by kernel_rfl) Try.func6
    (ChangeSpec.witness6 (enc := enc) (C := Try.checked) false ⟨#[], #[.slice none 0 0, .agg #[.slice none 0 0, .slice none 0 0], .int .i64 0, .int .i64 0], []⟩ 8 (by kernel_rfl) (by kernel_rfl) (by kernel_rfl) (by kernel_rfl)) ?_
  intro W base args ds gs before hval0 hW hcnd hsz0 _
  have hval : ∀ (j : Nat) t v, Try.f6.params[j]? = some t → args[j]? = some v → Value.okWide Try.prog W .any base t v := hval0
  have hW' := hW
  obtain ⟨p, q, hA0, hV, rfl, hfz, hnd⟩ := hW
  have hA : DataW.TrodAll enc Try.prog W 0 (fun _ => true) true Try.f6.params.toList args.toList ds p := hA0
  rw [Try.params6] at hA hval
  obtain ⟨v0, vs0, d0, ds0, p0, q0, hargs, rfl, rfl, h0, r0⟩ := trodAll_cons hA
  obtain ⟨v1, vs1, d1, ds1, p1, q1, rfl, rfl, rfl, h1, r1⟩ := trodAll_cons r0
  obtain ⟨v2, vs2, d2, ds2, p2, q2, rfl, rfl, rfl, h2, r2⟩ := trodAll_cons r1
  obtain ⟨v3, vs3, d3, ds3, p3, q3, rfl, rfl, rfl, h3, r3⟩ := trodAll_cons r2
  obtain ⟨rfl, rfl, rfl⟩ := trodAll_nil r3
  obtain rfl : args = #[v0, v1, v2, v3] := by cases args; simp_all
  obtain ⟨rfl, rfl⟩ := trodVars_none hV
  have k0 := h0
  have lt0 : ∀ x ∈ p0, x.block < W.heap.size := by obtain ⟨m, hm⟩ := k0; exact DataW.trod_lt m _ _ _ hm
  have k1 := h1
  have lt1 : ∀ x ∈ p1, x.block < W.heap.size := by obtain ⟨m, hm⟩ := k1; exact DataW.trod_lt m _ _ _ hm
  have k2 := h2
  have lt2 : ∀ x ∈ p2, x.block < W.heap.size := by obtain ⟨m, hm⟩ := k2; exact DataW.trod_lt m _ _ _ hm
  have k3 := h3
  have lt3 : ∀ x ∈ p3, x.block < W.heap.size := by obtain ⟨m, hm⟩ := k3; exact DataW.trod_lt m _ _ _ hm
  obtain ⟨A0, len0, cap0, rfl⟩ := okWide_slice Try.underlying22 (hval 0 22 v0 rfl rfl)
  obtain ⟨a0, f0, rp0, _, w0⟩ := o22.arg h0
  obtain ⟨⟨b1, b2⟩, f1, rp1, _, w1⟩ := o37.arg h1
  obtain ⟨a2, rfl, rfl, rfl, w2⟩ := open_int Try.underlying3 (hval 2 3 v2 rfl rfl) h2
  obtain ⟨a3, rfl, rfl, rfl, w3⟩ := open_int Try.underlying3 (hval 3 3 v3 rfl rfl) h3
  clear hA0 hval0 hsz0
  have g : GoF Try.prog 6 (mkEnt 0 [.one (.lst .pin 5 (.int .u8) a0), .agg (toL .frz (.pair (.fz 3 (.int .i64)) (.fz 3 (.int .i64))) (b1, b2)), .one (.sc (.int .i64 a2)), .one (.sc (.int .i64 a3))]) [(0, .one (.sc (.bool true)))] := (F6.X 1000).ok _ _ ((by kernel_rfl : (F6.X 1000).run (mkEnt 0 [.one (.lst .pin 5 (.int .u8) a0), .agg (toL .frz (.pair (.fz 3 (.int .i64)) (.fz 3 (.int .i64))) (b1, b2)), .one (.sc (.int .i64 a2)), .one (.sc (.int .i64 a3))]) some = F6.C 1000 a0 b1 b2 a2 a3 (fun r0 => some (Sh.mk F6.o0 (r0, ())))).trans (branchFits (Nat.le_refl _) (fun x hx => wf_u8 (w0.2 x hx)) b1 b2 a2 a3 _))
  refine (g.lawE (args := [.slice A0 len0 cap0, v1, .int .i64 a2, .int .i64 a3]) ⟨VOk.list (by decide) rp0, ⟨VOk.agg (by kernel_rfl) (of_decide_eq_true (by kernel_rfl)) rp1, ⟨VOk.int a2, ⟨VOk.int a3, trivial⟩⟩⟩⟩).mono fun e W' ⟨he, bel⟩ => ?_
  subst he
  exact ⟨_, rfl, _, _, _, [], _, [], hW', trodAll_mk1 (shut_bool Try.underlying4 _), (trodAll_cons_mk (Below.trod laidOut (by kernel_rfl) (of_decide_eq_true (by kernel_rfl)) k0 bel lt0) (trodAll_cons_mk (Below.trod laidOut (by kernel_rfl) (of_decide_eq_true (by kernel_rfl)) k1 bel lt1) (trodAll_cons_mk (Below.trod laidOut (by kernel_rfl) (of_decide_eq_true (by kernel_rfl)) k2 bel lt2) (trodAll_cons_mk (Below.trod laidOut (by kernel_rfl) (of_decide_eq_true (by kernel_rfl)) k3 bel lt3) trodAll_mk0)))), rfl, bel.frame _, fun h => by cases h⟩
theorem over : Rows.branchFitsRow.holds Try.pinned (OpenSpec.ofChange Rows.branchFitsSpec) :=
  OpenClaim.holds_of_wide 6 Try.f6 rfl rfl rfl rfl rfl rfl rfl ⟨rfl, rfl, rfl, rfl, rfl⟩ rfl rfl rfl rfl rfl (by kernel_rfl) Try.func6 (by kernel_rfl)
    (of_decide_eq_true (by kernel_rfl)) (by unfold Func.isWrapper; first | (rw [if_pos (by decide +kernel)]; kernel_rfl) | (rw [if_neg (by decide +kernel)]; exact ⟨rfl, rfl⟩))
    (fun os started H enc _ => lifted os started H enc)
theorem proved : Rows.BranchFitsSaid := over
end Go.Proofs.Ytbheofpanlpnkaa.branchFits
namespace Go.Proofs.Ytbheofpanlpnkaa
/-- The row, under a short name, for the claim. -/
theorem branchFits_holds : Rows.BranchFitsSaid := branchFits.proved
end Go.Proofs.Ytbheofpanlpnkaa
