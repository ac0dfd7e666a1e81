/- It is proved that branch.Check and branch.Right answer what the document says, as the law BranchChecks states it; there are no conditions beyond those of the given row. -/
import Derived.Test.YtbheofpanlpnkaaZd
import Derived.Test.YtbheofpanlpnkaaRows
import Derived.WalkKit
import Derived.ProofKit
import Derived.OpenShut
import Derived.ShutString
import Derived.ChangeOld
import Derived.Below
import Derived.SizedLaws
/- minecontrol/minecontrollaw09.small -/
namespace Go.Vi.B
open Go.Proofs
set_option linter.unusedVariables false
set_option maxRecDepth 100000
abbrev F15.i : Sh := [(0, .agg [.lst .frz 70 kd1, .lst .frz 64 kd8, .lst .frz 44 kd11, .lst .frz 46 kd13])]
abbrev F15.o0 : Sh := [(0, .one .bool)]
noncomputable def F15.K {β : Type} (N : Nat) (a0 : List Pl) (a1 : List Ro) (a2 : List Fa) (a3 : List Do) (k0 : Bool → Option β) : Option β :=
 bl ((a0.length : Int) ≤ 20) (k0 false) <|
 bl ((a1.length : Int) ≤ 20) (k0 false) <|
 br ((a2.length : Int) ≤ 10) (k0 (decide ((a3.length : Int) ≤ 10))) <|
 k0 false
noncomputable def F15.fx : Fx := ⟨Try.prog, [], [], [(0,[1]),(1,[2])], 27, []⟩
noncomputable def F15.cs (N : Nat) : List (Ctr Try.prog) := []
noncomputable def F15.C {β : Type} (N : Nat) := (Sealed fun β => @F15.K β).1 β N
theorem F15.C_eq {β : Type} (N : Nat) : @F15.C β N = @F15.K β N := congrFun (congrFun (Sealed fun β => @F15.K β).2 β) N
noncomputable def F15.X (N : Nat) : Ctr Try.prog := mkF 15 Try.f15 F15.fx (F15.cs N) [] F15.i (fun x k => F15.C N x.1 x.2.1 x.2.2.1 x.2.2.2.1 (fun r0 => k (Sh.mk F15.o0 (r0, ())))) (by intros; rw [F15.C_eq]; kernel_rfl) (by kernel_rfl) (by kernel_rfl) (by kernel_rfl) (by kernel_rfl) rfl (by kernel_rfl) rfl (by kernel_rfl) (by kernel_rfl) (by kernel_rfl) (.dead _ 15) rfl
end Go.Vi.B
/- minecontrol/minecontrollaw09.BranchChecks -/
namespace Go.Vi.B
open Go.Proofs
set_option linter.unusedVariables false
set_option maxRecDepth 100000
abbrev F3.i : Sh := [(0, .one (.lst .pin 5 (.int .u8))), (2, .agg [.lst .frz 70 kd1, .lst .frz 64 kd8, .lst .frz 44 kd11, .lst .frz 46 kd13]), (4, .agg [.lst .frz 3 .i, .lst .frz 3 .i]), (6, .one .i)]
abbrev F3.o0 : Sh := [(0, .one .bool)]
noncomputable def F3.K {β : Type} (N : Nat) (a0 : List Int) (a1 : List Pl) (a2 : List Ro) (a3 : List Fa) (a4 : List Do) (a5 a6 : List Int) (a7 : Int) (k0 : Bool → Option β) : Option β :=
 F10.C N a0 fun r1 r2 =>
 F11.C N r1 r2 fun _ _ r5 r6 r7 r8 r9 r10 r11 r12 =>
 F12.C N r11 r12 6 fun r13 r14 r15 =>
 br (r13 = 1) (
  F13.C N r14 r15 fun r16 _ _ =>
  ck (r7.length + 1 ≤ 1000000000) <|
  ck (r9.length + 1 ≤ 1000000000) <|
  F15.C N a1 a2 a3 a4 fun r19 =>
  br (!r19) (
   F16.C N fun r20 =>
   k0 r20) <|
  F17.C N r5 r6 (r7 ++ [(a7, (false, (false, r16)))]) r8 fun r21 =>
  F18.C N r5 r6 (r7 ++ [(a7, (false, (false, r16)))]) r8 fun r22 =>
  bl (r21 = r22) (k0 false) <|
  F17.C N a1 a2 a3 a4 fun r23 =>
  F18.C N a1 a2 a3 a4 fun r24 =>
  bl (r23 = r24) (k0 false) <|
  F19.C N r5 r6 (r7 ++ [(a7, (false, (false, r16)))]) r8 (r9 ++ [a7]) r10 fun r25 =>
  F20.C N r5 r6 (r7 ++ [(a7, (false, (false, r16)))]) r8 (r9 ++ [a7]) r10 fun r26 =>
  bl (r25 == r26) (k0 false) <|
  F19.C N a1 a2 a3 a4 a5 a6 fun r27 =>
  F20.C N a1 a2 a3 a4 a5 a6 fun r28 =>
  bl (r27 == r28) (k0 false) <|
  F19.C N r5 r6 (r7 ++ [(a7, (false, (false, r16)))]) r8 a5 a6 fun r29 =>
  F20.C N r5 r6 (r7 ++ [(a7, (false, (false, r16)))]) r8 a5 a6 fun r30 =>
  bl (r29 == r30) (k0 false) <|
  F16.C N fun r31 =>
  k0 r31) <|
 br (r13 = 2) (
  F14.C N r14 r15 a7 fun r32 r33 r34 _ _ =>
  ck (r8.length + 1 ≤ 1000000000) <|
  ck (r10.length + 1 ≤ 1000000000) <|
  F15.C N a1 a2 a3 a4 fun r37 =>
  br (!r37) (
   F16.C N fun r38 =>
   k0 r38) <|
  F17.C N r5 r6 r7 (r8 ++ [(r32, (r33, r34))]) fun r39 =>
  F18.C N r5 r6 r7 (r8 ++ [(r32, (r33, r34))]) fun r40 =>
  bl (r39 = r40) (k0 false) <|
  F17.C N a1 a2 a3 a4 fun r41 =>
  F18.C N a1 a2 a3 a4 fun r42 =>
  bl (r41 = r42) (k0 false) <|
  F19.C N r5 r6 r7 (r8 ++ [(r32, (r33, r34))]) r9 (r10 ++ [a7]) fun r43 =>
  F20.C N r5 r6 r7 (r8 ++ [(r32, (r33, r34))]) r9 (r10 ++ [a7]) fun r44 =>
  bl (r43 == r44) (k0 false) <|
  F19.C N a1 a2 a3 a4 a5 a6 fun r45 =>
  F20.C N a1 a2 a3 a4 a5 a6 fun r46 =>
  bl (r45 == r46) (k0 false) <|
  F19.C N r5 r6 r7 (r8 ++ [(r32, (r33, r34))]) a5 a6 fun r47 =>
  F20.C N r5 r6 r7 (r8 ++ [(r32, (r33, r34))]) a5 a6 fun r48 =>
  bl (r47 == r48) (k0 false) <|
  F16.C N fun r49 =>
  k0 r49) <|
 br (r13 = 3) (
  ck (r9.length + 1 ≤ 1000000000) <|
  F15.C N a1 a2 a3 a4 fun r50 =>
  br (!r50) (
   F16.C N fun r51 =>
   k0 r51) <|
  F17.C N r5 r6 r7 r8 fun r52 =>
  F18.C N r5 r6 r7 r8 fun r53 =>
  bl (r52 = r53) (k0 false) <|
  F17.C N a1 a2 a3 a4 fun r54 =>
  F18.C N a1 a2 a3 a4 fun r55 =>
  bl (r54 = r55) (k0 false) <|
  F19.C N r5 r6 r7 r8 (r9 ++ [0]) r10 fun r56 =>
  F20.C N r5 r6 r7 r8 (r9 ++ [0]) r10 fun r57 =>
  bl (r56 == r57) (k0 false) <|
  F19.C N a1 a2 a3 a4 a5 a6 fun r58 =>
  F20.C N a1 a2 a3 a4 a5 a6 fun r59 =>
  bl (r58 == r59) (k0 false) <|
  F19.C N r5 r6 r7 r8 a5 a6 fun r60 =>
  F20.C N r5 r6 r7 r8 a5 a6 fun r61 =>
  bl (r60 == r61) (k0 false) <|
  F16.C N fun r62 =>
  k0 r62) <|
 bl (r13 = 4) (
  F15.C N a1 a2 a3 a4 fun r76 =>
  br (!r76) (
   F16.C N fun r77 =>
   k0 r77) <|
  F17.C N r5 r6 r7 r8 fun r78 =>
  F18.C N r5 r6 r7 r8 fun r79 =>
  bl (r78 = r79) (k0 false) <|
  F17.C N a1 a2 a3 a4 fun r80 =>
  F18.C N a1 a2 a3 a4 fun r81 =>
  bl (r80 = r81) (k0 false) <|
  F19.C N r5 r6 r7 r8 r9 r10 fun r82 =>
  F20.C N r5 r6 r7 r8 r9 r10 fun r83 =>
  bl (r82 == r83) (k0 false) <|
  F19.C N a1 a2 a3 a4 a5 a6 fun r84 =>
  F20.C N a1 a2 a3 a4 a5 a6 fun r85 =>
  bl (r84 == r85) (k0 false) <|
  F19.C N r5 r6 r7 r8 a5 a6 fun r86 =>
  F20.C N r5 r6 r7 r8 a5 a6 fun r87 =>
  bl (r86 == r87) (k0 false) <|
  F16.C N fun r88 =>
  k0 r88) <|
 ck (1 ≤ r5.length) <|
 F15.C N a1 a2 a3 a4 fun r63 =>
 br (!r63) (
  F16.C N fun r64 =>
  k0 r64) <|
 F17.C N (r5.take 1) r6 r7 r8 fun r65 =>
 F18.C N (r5.take 1) r6 r7 r8 fun r66 =>
 bl (r65 = r66) (k0 false) <|
 F17.C N a1 a2 a3 a4 fun r67 =>
 F18.C N a1 a2 a3 a4 fun r68 =>
 bl (r67 = r68) (k0 false) <|
 F19.C N (r5.take 1) r6 r7 r8 r9 r10 fun r69 =>
 F20.C N (r5.take 1) r6 r7 r8 r9 r10 fun r70 =>
 bl (r69 == r70) (k0 false) <|
 F19.C N a1 a2 a3 a4 a5 a6 fun r71 =>
 F20.C N a1 a2 a3 a4 a5 a6 fun r72 =>
 bl (r71 == r72) (k0 false) <|
 F19.C N (r5.take 1) r6 r7 r8 a5 a6 fun r73 =>
 F20.C N (r5.take 1) r6 r7 r8 a5 a6 fun r74 =>
 bl (r73 == r74) (k0 false) <|
 F16.C N fun r75 =>
 k0 r75
noncomputable def F3.fx : Fx := ⟨Try.prog, [], [10], [(0,[0,3,5,6]),(1,[3,5,6,9]),(2,[3,5,6,9,10,11]),(3,[3,5,6,9,10,11,22]),(4,[3,5,6,9,10,11,22,23]),(5,[3,5,6,10,11]),(6,[5,6,10,11]),(7,[3,5,6,9,10,11,22,40]),(8,[3,5,6,10,11]),(9,[5,6,10,11]),(10,[5,6,10,11,22,56]),(11,[5,6,10,11]),(12,[5,6,10,11,63]),(13,[5,6,10,11]),(14,[5,6,10,11,73]),(15,[8]),(16,[8])], 117, []⟩
noncomputable def F3.cs (N : Nat) : List (Ctr Try.prog) := [F10.X N, F11.X N, F12.X N, F13.X N, F15.X N, F16.X N, F17.X N, F18.X N, F19.X N, F20.X N, F14.X N]
noncomputable def F3.C {β : Type} (N : Nat) := (Sealed fun β => @F3.K β).1 β N
theorem F3.C_eq {β : Type} (N : Nat) : @F3.C β N = @F3.K β N := congrFun (congrFun (Sealed fun β => @F3.K β).2 β) N
noncomputable def F3.X (N : Nat) : Ctr Try.prog := mkF 3 Try.f3 F3.fx (F3.cs N) [] F3.i (fun x k => F3.C N x.1 x.2.1 x.2.2.1 x.2.2.2.1 x.2.2.2.2.1 x.2.2.2.2.2.1 x.2.2.2.2.2.2.1 x.2.2.2.2.2.2.2.1 (fun r0 => k (Sh.mk F3.o0 (r0, ())))) (by intros; rw [F3.C_eq]; kernel_rfl) (by kernel_rfl) (by kernel_rfl) (by kernel_rfl) (by kernel_rfl) rfl (by kernel_rfl) rfl (by kernel_rfl) (by kernel_rfl) (by kernel_rfl) (.dead _ 3) rfl
end Go.Vi.B
/- BranchChecks, its residual: true. -/
namespace Go.Vi.B
open Go.Proofs Go.Vi.A
set_option linter.unusedVariables false
set_option linter.unusedSimpArgs false
variable {β : Type} {N : Nat} (hN : 1000 ≤ N)
theorem small_any (a0 : List Pl) (a1 : List Ro) (a2 : List Fa) (a3 : List Do) : ∃ b, ∀ k : Bool → Option β, F15.C N a0 a1 a2 a3 k = k b := by
  simp only [F15.C_eq]; unfold F15.K; simp only [res]
  by_cases c0 : (a0.length : Int) ≤ 20
  · by_cases c1 : (a1.length : Int) ≤ 20
    · by_cases c2 : (a2.length : Int) ≤ 10
      · exact ⟨_, fun k => by rw [if_pos c0, if_pos c1, if_pos c2]⟩
      · exact ⟨false, fun k => by rw [if_pos c0, if_pos c1, if_neg c2]⟩
    · exact ⟨false, fun k => by rw [if_pos c0, if_neg c1]⟩
  · exact ⟨false, fun k => by rw [if_neg c0]⟩
include hN in
theorem branchChecks {a0 : List Int} (h0 : ∀ x ∈ a0, 0 ≤ x ∧ x ≤ 255) (a1 : List Pl) (a2 : List Ro) (a3 : List Fa) (a4 : List Do) (a5 a6 : List Int) (a7 : Int) (k : Bool → Option β) : F3.C N a0 a1 a2 a3 a4 a5 a6 a7 k = k true := by
  obtain ⟨l, c0, e0⟩ := draw_New (β := β) (N := N) h0
  obtain ⟨pl, ro, fa, dr, sf, sd, xp, xq, b1, c1, m1, e1⟩ := draw_Made (β := β) hN c0
  have n0 := m1.npl; have n0' := m1.npl1; have n1 := m1.nro; have n2 := m1.nfa; have n3 := m1.ndr
  have hs := SetOk.of m1.fit
  have lf := hs.lf; have ld := hs.ld
  obtain ⟨r, b2, c2, _, e2⟩ := draw_Next (β := β) (N := N) c1 6
  obtain ⟨ys, b3, c3, _, e3⟩ := draw_Curve (β := β) hN c2
  obtain ⟨zs, b4, c4, _, e4⟩ := draw_Door (β := β) hN c2 a7
  obtain ⟨b, es⟩ := small_any (β := β) (N := N) a1 a2 a3 a4
  rw [F3.C_eq]; unfold F3.K
  rw [e0, e1, e2]
  simp only [e3, e4, es, branch_Check hN, ref09_Check hN, branch_Right hN, ref09_Right hN, nz, awake hN, res, if_true, beq_self_eq_true]
  have q1 : fa.length + 1 ≤ 1000000000 := by omega
  have q2 : sf.length + 1 ≤ 1000000000 := by omega
  have q3 : dr.length + 1 ≤ 1000000000 := by omega
  have q4 : sd.length + 1 ≤ 1000000000 := by omega
  simp only [q1, q2, q3, q4, n0', if_true]
  cases b <;> simp only [res, ite_self]
end Go.Vi.B
namespace Go.Proofs.Ytbheofpanlpnkaa.branchChecks
open Go.ChangeShapes Go.WideShapes Go.ChangeAt Go.RowKit Go.Vi Go.Vi.A Go.Vi.B
set_option linter.unusedVariables false
theorem own : ownKnob Try.prog.godebug = none := by kernel_rfl
theorem laidOut : laidOutB Try.prog = true := by kernel_rfl
theorem o5 : Opn Try.prog 5 (.int .u8) := Opn.int Try.underlying5 (by kernel_rfl)
theorem o22 : Opn Try.prog 22 (.fz 5 (.int .u8)) := Opn.slice Try.underlying22 (by kernel_rfl) o5
theorem o3 : Opn Try.prog 3 (.int .i64) := Opn.int Try.underlying3 (by kernel_rfl)
theorem o4 : Opn Try.prog 4 .bool := Opn.bool Try.underlying4 (by kernel_rfl)
theorem o70 : Opn Try.prog 70 (.pair (.int .i64) .bool) := Opn.struct Try.underlying70 (by kernel_rfl) (OpnL.cons rfl o3 (OpnL.one rfl o4))
theorem o23 : Opn Try.prog 23 (.fz 70 (.pair (.int .i64) .bool)) := Opn.slice Try.underlying23 (by kernel_rfl) o70
theorem o57 : Opn Try.prog 57 (.pair (.int .i64) (.int .i64)) := Opn.struct Try.underlying57 (by kernel_rfl) (OpnL.cons rfl o3 (OpnL.one rfl o3))
theorem o64 : Opn Try.prog 64 (.pair (.int .i64) (.pair (.int .i64) (.pair (.int .i64) (.pair (.int .i64) (.pair .bool (.pair .bool (.pair (.pair (.int .i64) (.int .i64)) (.pair (.int .i64) (.int .i64))))))))) := Opn.struct Try.underlying64 (by kernel_rfl) (OpnL.cons rfl o3 (OpnL.cons rfl o3 (OpnL.cons rfl o3 (OpnL.cons rfl o3 (OpnL.cons rfl o4 (OpnL.cons rfl o4 (OpnL.cons rfl o57 (OpnL.one rfl o57))))))))
theorem o24 : Opn Try.prog 24 (.fz 64 (.pair (.int .i64) (.pair (.int .i64) (.pair (.int .i64) (.pair (.int .i64) (.pair .bool (.pair .bool (.pair (.pair (.int .i64) (.int .i64)) (.pair (.int .i64) (.int .i64)))))))))) := Opn.slice Try.underlying24 (by kernel_rfl) o64
theorem o26 : Opn Try.prog 26 (.pair (.fz 70 (.pair (.int .i64) .bool)) (.fz 64 (.pair (.int .i64) (.pair (.int .i64) (.pair (.int .i64) (.pair (.int .i64) (.pair .bool (.pair .bool (.pair (.pair (.int .i64) (.int .i64)) (.pair (.int .i64) (.int .i64))))))))))) := Opn.struct Try.underlying26 (by kernel_rfl) (OpnL.cons rfl o23 (OpnL.one rfl o24))
theorem o78 : Opn Try.prog 78 (.pair (.int .i64) (.int .i64)) := Opn.struct Try.underlying78 (by kernel_rfl) (OpnL.cons rfl o3 (OpnL.one rfl o3))
theorem o41 : Opn Try.prog 41 (.fz 78 (.pair (.int .i64) (.int .i64))) := Opn.slice Try.underlying41 (by kernel_rfl) o78
theorem o44 : Opn Try.prog 44 (.pair (.int .i64) (.pair .bool (.pair .bool (.fz 78 (.pair (.int .i64) (.int .i64)))))) := Opn.struct Try.underlying44 (by kernel_rfl) (OpnL.cons rfl o3 (OpnL.cons rfl o4 (OpnL.cons rfl o4 (OpnL.one rfl o41))))
theorem o27 : Opn Try.prog 27 (.fz 44 (.pair (.int .i64) (.pair .bool (.pair .bool (.fz 78 (.pair (.int .i64) (.int .i64))))))) := Opn.slice Try.underlying27 (by kernel_rfl) o44
theorem o31 : Opn Try.prog 31 (.fz 3 (.int .i64)) := Opn.slice Try.underlying31 (by kernel_rfl) o3
theorem o46 : Opn Try.prog 46 (.pair (.int .i64) (.pair (.int .i64) (.fz 3 (.int .i64)))) := Opn.struct Try.underlying46 (by kernel_rfl) (OpnL.cons rfl o3 (OpnL.cons rfl o3 (OpnL.one rfl o31)))
theorem o28 : Opn Try.prog 28 (.fz 46 (.pair (.int .i64) (.pair (.int .i64) (.fz 3 (.int .i64))))) := Opn.slice Try.underlying28 (by kernel_rfl) o46
theorem o30 : Opn Try.prog 30 (.pair (.pair (.fz 70 (.pair (.int .i64) .bool)) (.fz 64 (.pair (.int .i64) (.pair (.int .i64) (.pair (.int .i64) (.pair (.int .i64) (.pair .bool (.pair .bool (.pair (.pair (.int .i64) (.int .i64)) (.pair (.int .i64) (.int .i64))))))))))) (.pair (.fz 44 (.pair (.int .i64) (.pair .bool (.pair .bool (.fz 78 (.pair (.int .i64) (.int .i64))))))) (.fz 46 (.pair (.int .i64) (.pair (.int .i64) (.fz 3 (.int .i64))))))) := Opn.struct Try.underlying30 (by kernel_rfl) (OpnL.cons rfl o26 (OpnL.cons rfl o27 (OpnL.one rfl o28)))
theorem o33 : Opn Try.prog 33 (.pair (.fz 3 (.int .i64)) (.fz 3 (.int .i64))) := Opn.struct Try.underlying33 (by kernel_rfl) (OpnL.cons rfl o31 (OpnL.one rfl o31))
set_option maxHeartbeats 2000000 in
set_option maxRecDepth 100000 in
theorem lifted (os : Os) (started : os.Started) (H : Type) (enc : TypeId × Value → H) :
    ReturnsInHanded {} Try.checked os 3 .any (Rows.branchChecksSpec.pre6 enc Try.prog Try.f3 Rows.branchChecksRow.domain false) (Rows.branchChecksSpec.post enc Try.prog Try.f3 false true false false) := by
  refine returnsInHanded_of_change_sized (C := Try.checked) own started (by kernel_rfl) Try.func3
    (ChangeSpec.witness6 (enc := enc) (C := Try.checked) false ⟨#[], #[.slice none 0 0, .agg #[.slice none 0 0, .slice none 0 0, .slice none 0 0, .slice none 0 0], .agg #[.slice none 0 0, .slice none 0 0], .int .i64 0], []⟩ 8 (by kernel_rfl) (by kernel_rfl) (by kernel_rfl) (by kernel_rfl)) ?_
  intro W base args ds gs before hval0 hW hcnd hsz0 _
  have hval : ∀ (j : Nat) t v, Try.f3.params[j]? = some t → args[j]? = some v → Value.okWide Try.prog W .any base t v := hval0
  have hW' := hW
  obtain ⟨p, q, hA0, hV, rfl, hfz, hnd⟩ := hW
  have hA : DataW.TrodAll enc Try.prog W 0 (fun _ => true) true Try.f3.params.toList args.toList ds p := hA0
  rw [Try.params3] at hA hval
  obtain ⟨v0, vs0, d0, ds0, p0, q0, hargs, rfl, rfl, h0, r0⟩ := trodAll_cons hA
  obtain ⟨v1, vs1, d1, ds1, p1, q1, rfl, rfl, rfl, h1, r1⟩ := trodAll_cons r0
  obtain ⟨v2, vs2, d2, ds2, p2, q2, rfl, rfl, rfl, h2, r2⟩ := trodAll_cons r1
  obtain ⟨v3, vs3, d3, ds3, p3, q3, rfl, rfl, rfl, h3, r3⟩ := trodAll_cons r2
  obtain ⟨rfl, rfl, rfl⟩ := trodAll_nil r3
  obtain rfl : args = #[v0, v1, v2, v3] := by cases args; simp_all
  obtain ⟨rfl, rfl⟩ := trodVars_none hV
  have k0 := h0
  have lt0 : ∀ x ∈ p0, x.block < W.heap.size := by obtain ⟨m, hm⟩ := k0; exact DataW.trod_lt m _ _ _ hm
  have k1 := h1
  have lt1 : ∀ x ∈ p1, x.block < W.heap.size := by obtain ⟨m, hm⟩ := k1; exact DataW.trod_lt m _ _ _ hm
  have k2 := h2
  have lt2 : ∀ x ∈ p2, x.block < W.heap.size := by obtain ⟨m, hm⟩ := k2; exact DataW.trod_lt m _ _ _ hm
  have k3 := h3
  have lt3 : ∀ x ∈ p3, x.block < W.heap.size := by obtain ⟨m, hm⟩ := k3; exact DataW.trod_lt m _ _ _ hm
  obtain ⟨A0, len0, cap0, rfl⟩ := okWide_slice Try.underlying22 (hval 0 22 v0 rfl rfl)
  obtain ⟨a0, f0, rp0, _, w0⟩ := o22.arg h0
  obtain ⟨⟨⟨b1, b2⟩, ⟨b3, b4⟩⟩, f1, rp1, _, w1⟩ := o30.arg h1
  obtain ⟨⟨b5, b6⟩, f2, rp2, _, w2⟩ := o33.arg h2
  obtain ⟨a3, rfl, rfl, rfl, w3⟩ := open_int Try.underlying3 (hval 3 3 v3 rfl rfl) h3
  clear hA0 hval0 hsz0
  have g : GoF Try.prog 3 (mkEnt 0 [.one (.lst .pin 5 (.int .u8) a0), .agg (toL .frz (.pair (.pair (.fz 70 (.pair (.int .i64) .bool)) (.fz 64 (.pair (.int .i64) (.pair (.int .i64) (.pair (.int .i64) (.pair (.int .i64) (.pair .bool (.pair .bool (.pair (.pair (.int .i64) (.int .i64)) (.pair (.int .i64) (.int .i64))))))))))) (.pair (.fz 44 (.pair (.int .i64) (.pair .bool (.pair .bool (.fz 78 (.pair (.int .i64) (.int .i64))))))) (.fz 46 (.pair (.int .i64) (.pair (.int .i64) (.fz 3 (.int .i64))))))) ((b1, b2), (b3, b4))), .agg (toL .frz (.pair (.fz 3 (.int .i64)) (.fz 3 (.int .i64))) (b5, b6)), .one (.sc (.int .i64 a3))]) [(0, .one (.sc (.bool true)))] := (F3.X 1000).ok _ _ ((by kernel_rfl : (F3.X 1000).run (mkEnt 0 [.one (.lst .pin 5 (.int .u8) a0), .agg (toL .frz (.pair (.pair (.fz 70 (.pair (.int .i64) .bool)) (.fz 64 (.pair (.int .i64) (.pair (.int .i64) (.pair (.int .i64) (.pair (.int .i64) (.pair .bool (.pair .bool (.pair (.pair (.int .i64) (.int .i64)) (.pair (.int .i64) (.int .i64))))))))))) (.pair (.fz 44 (.pair (.int .i64) (.pair .bool (.pair .bool (.fz 78 (.pair (.int .i64) (.int .i64))))))) (.fz 46 (.pair (.int .i64) (.pair (.int .i64) (.fz 3 (.int .i64))))))) ((b1, b2), (b3, b4))), .agg (toL .frz (.pair (.fz 3 (.int .i64)) (.fz 3 (.int .i64))) (b5, b6)), .one (.sc (.int .i64 a3))]) some = F3.C 1000 a0 b1 b2 b3 b4 b5 b6 a3 (fun r0 => some (Sh.mk F3.o0 (r0, ())))).trans (branchChecks (Nat.le_refl _) (fun x hx => wf_u8 (w0.2 x hx)) b1 b2 b3 b4 b5 b6 a3 _))
  refine (g.lawE (args := [.slice A0 len0 cap0, v1, v2, .int .i64 a3]) ⟨VOk.list (by decide) rp0, ⟨VOk.agg (by kernel_rfl) (of_decide_eq_true (by kernel_rfl)) rp1, ⟨VOk.agg (by kernel_rfl) (of_decide_eq_true (by kernel_rfl)) rp2, ⟨VOk.int a3, trivial⟩⟩⟩⟩).mono fun e W' ⟨he, bel⟩ => ?_
  subst he
  exact ⟨_, rfl, _, _, _, [], _, [], hW', trodAll_mk1 (shut_bool Try.underlying4 _), (trodAll_cons_mk (Below.trod laidOut (by kernel_rfl) (of_decide_eq_true (by kernel_rfl)) k0 bel lt0) (trodAll_cons_mk (Below.trod laidOut (by kernel_rfl) (of_decide_eq_true (by kernel_rfl)) k1 bel lt1) (trodAll_cons_mk (Below.trod laidOut (by kernel_rfl) (of_decide_eq_true (by kernel_rfl)) k2 bel lt2) (trodAll_cons_mk (Below.trod laidOut (by kernel_rfl) (of_decide_eq_true (by kernel_rfl)) k3 bel lt3) trodAll_mk0)))), rfl, bel.frame _, fun h => by cases h⟩
theorem over : Rows.branchChecksRow.holds Try.pinned (OpenSpec.ofChange Rows.branchChecksSpec) :=
  OpenClaim.holds_of_wide 3 Try.f3 rfl rfl rfl rfl rfl rfl rfl ⟨rfl, rfl, rfl, rfl, rfl⟩ rfl rfl rfl rfl rfl (by kernel_rfl) Try.func3 (by kernel_rfl)
    (of_decide_eq_true (by kernel_rfl)) (by unfold Func.isWrapper; first | (rw [if_pos (by decide +kernel)]; kernel_rfl) | (rw [if_neg (by decide +kernel)]; exact ⟨rfl, rfl⟩))
    (fun os started H enc _ => lifted os started H enc)
theorem proved : Rows.BranchChecksSaid := over
end Go.Proofs.Ytbheofpanlpnkaa.branchChecks
namespace Go.Proofs.Ytbheofpanlpnkaa
/-- The row, under a short name, for the claim. -/
theorem branchChecks_holds : Rows.BranchChecksSaid := branchChecks.proved
end Go.Proofs.Ytbheofpanlpnkaa
