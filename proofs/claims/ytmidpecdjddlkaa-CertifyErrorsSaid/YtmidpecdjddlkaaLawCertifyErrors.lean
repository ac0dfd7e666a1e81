/- It is proved that certify.Check and certify.Flows answer what the document says, as the law CertifyErrors states it; there are no conditions beyond those of the given row. -/
import Derived.Test.YtmidpecdjddlkaaZe
import Derived.Test.YtmidpecdjddlkaaRows
import Derived.WalkKit
import Derived.ProofKit
import Derived.OpenShut
import Derived.ShutString
import Derived.ChangeOld
import Derived.Below
import Derived.SizedLaws
/- minecontrol/minecontrollaw11.CertifyErrors -/
namespace Go.Vi.B
open Go.Proofs
set_option linter.unusedVariables false
set_option maxRecDepth 100000
abbrev F4.i : Sh := [(0, .agg [.lst .frz 62 kd1, .lst .frz 71 kd8, .lst .frz 100 kd11, .lst .frz 55 kd13]), (2, .agg [.lst .frz 3 .i, .lst .frz 3 .i]), (4, .agg [.lst .frz 3 .i, .lst .frz 3 .i])]
abbrev F4.o0 : Sh := [(0, .one .bool)]
noncomputable def F4.K {β : Type} (N : Nat) (a0 : List Pl) (a1 : List Ro) (a2 : List Fa) (a3 : List Do) (a4 a5 a6 a7 : List Int) (k0 : Bool → Option β) : Option β :=
 br ((a0.length : Int) > 12) (
  F17.C N fun r1 =>
  k0 r1) <|
 br ((a1.length : Int) > 12) (
  F17.C N fun r2 =>
  k0 r2) <|
 F12.C N a0 a1 a2 a3 a4 a5 a6 a7 fun r3 =>
 F13.C N a0 a1 a2 a3 a4 a5 a6 a7 fun r4 =>
 bl (r3 = r4) (k0 false) <|
 F15.C N a0 a1 a2 a3 a4 a5 a6 a7 fun r5 =>
 F16.C N a0 a1 a2 a3 a4 a5 a6 a7 fun r6 =>
 F14.C N r5 r6 fun r7 =>
 bl r7 (k0 false) <|
 F17.C N fun r8 =>
 k0 r8
noncomputable def F4.fx : Fx := ⟨Try.prog, [], [], [(0,[3,4,5]),(1,[3,4,5,18]),(2,[6]),(3,[6])], 43, []⟩
noncomputable def F4.cs (N : Nat) : List (Ctr Try.prog) := [F17.X N, F12.X N, F13.X N, F15.X N, F16.X N, F14.X N]
noncomputable def F4.C {β : Type} (N : Nat) := (Sealed fun β => @F4.K β).1 β N
theorem F4.C_eq {β : Type} (N : Nat) : @F4.C β N = @F4.K β N := congrFun (congrFun (Sealed fun β => @F4.K β).2 β) N
noncomputable def F4.X (N : Nat) : Ctr Try.prog := mkF 4 Try.f4 F4.fx (F4.cs N) [] F4.i (fun x k => F4.C N x.1 x.2.1 x.2.2.1 x.2.2.2.1 x.2.2.2.2.1 x.2.2.2.2.2.1 x.2.2.2.2.2.2.1 x.2.2.2.2.2.2.2.1 (fun r0 => k (Sh.mk F4.o0 (r0, ())))) (by intros; rw [F4.C_eq]; kernel_rfl) (by kernel_rfl) (by kernel_rfl) (by kernel_rfl) (by kernel_rfl) rfl (by kernel_rfl) rfl (by kernel_rfl) (by kernel_rfl) (by kernel_rfl) (.dead _ 4) rfl
end Go.Vi.B
/- CertifyErrors, its residual: true. -/
namespace Go.Vi.B
open Go.Proofs Go.Vi.A
set_option linter.unusedVariables false
set_option linter.unusedSimpArgs false
variable {β : Type} {N : Nat} (hN : 1000 ≤ N)
include hN in
theorem certifyErrors (a0 : List Pl) (a1 : List Ro) (a2 : List Fa) (a3 : List Do) (a4 a5 a6 a7 : List Int) (k : Bool → Option β) : F4.C N a0 a1 a2 a3 a4 a5 a6 a7 k = k true := by
  rw [F4.C_eq]; unfold F4.K
  simp only [awake11 hN, certify_Check hN, ref11_Check hN, certify_Flows hN, ref11_Flows hN, ref01_Spans hN (flowsL_len _ _ _ _ _ _ _ _ _), res, if_true, ite_self, decide_true]
end Go.Vi.B
namespace Go.Proofs.Ytmidpecdjddlkaa.certifyErrors
open Go.ChangeShapes Go.WideShapes Go.ChangeAt Go.RowKit Go.Vi Go.Vi.A Go.Vi.B
set_option linter.unusedVariables false
theorem own : ownKnob Try.prog.godebug = none := by kernel_rfl
theorem laidOut : laidOutB Try.prog = true := by kernel_rfl
theorem o3 : Opn Try.prog 3 (.int .i64) := Opn.int Try.underlying3 (by kernel_rfl)
theorem o4 : Opn Try.prog 4 .bool := Opn.bool Try.underlying4 (by kernel_rfl)
theorem o62 : Opn Try.prog 62 (.pair (.int .i64) .bool) := Opn.struct Try.underlying62 (by kernel_rfl) (OpnL.cons rfl o3 (OpnL.one rfl o4))
theorem o28 : Opn Try.prog 28 (.fz 62 (.pair (.int .i64) .bool)) := Opn.slice Try.underlying28 (by kernel_rfl) o62
theorem o57 : Opn Try.prog 57 (.pair (.int .i64) (.int .i64)) := Opn.struct Try.underlying57 (by kernel_rfl) (OpnL.cons rfl o3 (OpnL.one rfl o3))
theorem o71 : Opn Try.prog 71 (.pair (.int .i64) (.pair (.int .i64) (.pair (.int .i64) (.pair (.int .i64) (.pair .bool (.pair .bool (.pair (.pair (.int .i64) (.int .i64)) (.pair (.int .i64) (.int .i64))))))))) := Opn.struct Try.underlying71 (by kernel_rfl) (OpnL.cons rfl o3 (OpnL.cons rfl o3 (OpnL.cons rfl o3 (OpnL.cons rfl o3 (OpnL.cons rfl o4 (OpnL.cons rfl o4 (OpnL.cons rfl o57 (OpnL.one rfl o57))))))))
theorem o29 : Opn Try.prog 29 (.fz 71 (.pair (.int .i64) (.pair (.int .i64) (.pair (.int .i64) (.pair (.int .i64) (.pair .bool (.pair .bool (.pair (.pair (.int .i64) (.int .i64)) (.pair (.int .i64) (.int .i64)))))))))) := Opn.slice Try.underlying29 (by kernel_rfl) o71
theorem o31 : Opn Try.prog 31 (.pair (.fz 62 (.pair (.int .i64) .bool)) (.fz 71 (.pair (.int .i64) (.pair (.int .i64) (.pair (.int .i64) (.pair (.int .i64) (.pair .bool (.pair .bool (.pair (.pair (.int .i64) (.int .i64)) (.pair (.int .i64) (.int .i64))))))))))) := Opn.struct Try.underlying31 (by kernel_rfl) (OpnL.cons rfl o28 (OpnL.one rfl o29))
theorem o116 : Opn Try.prog 116 (.pair (.int .i64) (.int .i64)) := Opn.struct Try.underlying116 (by kernel_rfl) (OpnL.cons rfl o3 (OpnL.one rfl o3))
theorem o97 : Opn Try.prog 97 (.fz 116 (.pair (.int .i64) (.int .i64))) := Opn.slice Try.underlying97 (by kernel_rfl) o116
theorem o100 : Opn Try.prog 100 (.pair (.int .i64) (.pair .bool (.pair .bool (.fz 116 (.pair (.int .i64) (.int .i64)))))) := Opn.struct Try.underlying100 (by kernel_rfl) (OpnL.cons rfl o3 (OpnL.cons rfl o4 (OpnL.cons rfl o4 (OpnL.one rfl o97))))
theorem o32 : Opn Try.prog 32 (.fz 100 (.pair (.int .i64) (.pair .bool (.pair .bool (.fz 116 (.pair (.int .i64) (.int .i64))))))) := Opn.slice Try.underlying32 (by kernel_rfl) o100
theorem o23 : Opn Try.prog 23 (.fz 3 (.int .i64)) := Opn.slice Try.underlying23 (by kernel_rfl) o3
theorem o55 : Opn Try.prog 55 (.pair (.int .i64) (.pair (.int .i64) (.fz 3 (.int .i64)))) := Opn.struct Try.underlying55 (by kernel_rfl) (OpnL.cons rfl o3 (OpnL.cons rfl o3 (OpnL.one rfl o23)))
theorem o33 : Opn Try.prog 33 (.fz 55 (.pair (.int .i64) (.pair (.int .i64) (.fz 3 (.int .i64))))) := Opn.slice Try.underlying33 (by kernel_rfl) o55
theorem o35 : Opn Try.prog 35 (.pair (.pair (.fz 62 (.pair (.int .i64) .bool)) (.fz 71 (.pair (.int .i64) (.pair (.int .i64) (.pair (.int .i64) (.pair (.int .i64) (.pair .bool (.pair .bool (.pair (.pair (.int .i64) (.int .i64)) (.pair (.int .i64) (.int .i64))))))))))) (.pair (.fz 100 (.pair (.int .i64) (.pair .bool (.pair .bool (.fz 116 (.pair (.int .i64) (.int .i64))))))) (.fz 55 (.pair (.int .i64) (.pair (.int .i64) (.fz 3 (.int .i64))))))) := Opn.struct Try.underlying35 (by kernel_rfl) (OpnL.cons rfl o31 (OpnL.cons rfl o32 (OpnL.one rfl o33)))
theorem o37 : Opn Try.prog 37 (.pair (.fz 3 (.int .i64)) (.fz 3 (.int .i64))) := Opn.struct Try.underlying37 (by kernel_rfl) (OpnL.cons rfl o23 (OpnL.one rfl o23))
theorem o25 : Opn Try.prog 25 (.pair (.fz 3 (.int .i64)) (.fz 3 (.int .i64))) := Opn.struct Try.underlying25 (by kernel_rfl) (OpnL.cons rfl o23 (OpnL.one rfl o23))
set_option maxHeartbeats 2000000 in
set_option maxRecDepth 100000 in
theorem lifted (os : Os) (started : os.Started) (H : Type) (enc : TypeId × Value → H) :
    ReturnsInHanded {} Try.checked os 4 .any (Rows.certifyErrorsSpec.pre6 enc Try.prog Try.f4 Rows.certifyErrorsRow.domain false) (Rows.certifyErrorsSpec.post enc Try.prog Try.f4 false true false false) := by
  refine returnsInHanded_of_change_sized (C := Try.checked) own started (by kernel_rfl) Try.func4
    (ChangeSpec.witness6 (enc := enc) (C := Try.checked) false ⟨#[], #[.agg #[.slice none 0 0, .slice none 0 0, .slice none 0 0, .slice none 0 0], .agg #[.slice none 0 0, .slice none 0 0], .agg #[.slice none 0 0, .slice none 0 0]], []⟩ 8 (by kernel_rfl) (by kernel_rfl) (by kernel_rfl) (by kernel_rfl)) ?_
  intro W base args ds gs before hval0 hW hcnd hsz0 _
  have hval : ∀ (j : Nat) t v, Try.f4.params[j]? = some t → args[j]? = some v → Value.okWide Try.prog W .any base t v := hval0
  have hW' := hW
  obtain ⟨p, q, hA0, hV, rfl, hfz, hnd⟩ := hW
  have hA : DataW.TrodAll enc Try.prog W 0 (fun _ => true) true Try.f4.params.toList args.toList ds p := hA0
  rw [Try.params4] at hA hval
  obtain ⟨v0, vs0, d0, ds0, p0, q0, hargs, rfl, rfl, h0, r0⟩ := trodAll_cons hA
  obtain ⟨v1, vs1, d1, ds1, p1, q1, rfl, rfl, rfl, h1, r1⟩ := trodAll_cons r0
  obtain ⟨v2, vs2, d2, ds2, p2, q2, rfl, rfl, rfl, h2, r2⟩ := trodAll_cons r1
  obtain ⟨rfl, rfl, rfl⟩ := trodAll_nil r2
  obtain rfl : args = #[v0, v1, v2] := by cases args; simp_all
  obtain ⟨rfl, rfl⟩ := trodVars_none hV
  have k0 := h0
  have lt0 : ∀ x ∈ p0, x.block < W.heap.size := by obtain ⟨m, hm⟩ := k0; exact DataW.trod_lt m _ _ _ hm
  have k1 := h1
  have lt1 : ∀ x ∈ p1, x.block < W.heap.size := by obtain ⟨m, hm⟩ := k1; exact DataW.trod_lt m _ _ _ hm
  have k2 := h2
  have lt2 : ∀ x ∈ p2, x.block < W.heap.size := by obtain ⟨m, hm⟩ := k2; exact DataW.trod_lt m _ _ _ hm
  obtain ⟨⟨⟨b1, b2⟩, ⟨b3, b4⟩⟩, f0, rp0, _, w0⟩ := o35.arg h0
  obtain ⟨⟨b5, b6⟩, f1, rp1, _, w1⟩ := o37.arg h1
  obtain ⟨⟨b7, b8⟩, f2, rp2, _, w2⟩ := o25.arg h2
  clear hA0 hval0 hsz0
  have g : GoF Try.prog 4 (mkEnt 0 [.agg (toL .frz (.pair (.pair (.fz 62 (.pair (.int .i64) .bool)) (.fz 71 (.pair (.int .i64) (.pair (.int .i64) (.pair (.int .i64) (.pair (.int .i64) (.pair .bool (.pair .bool (.pair (.pair (.int .i64) (.int .i64)) (.pair (.int .i64) (.int .i64))))))))))) (.pair (.fz 100 (.pair (.int .i64) (.pair .bool (.pair .bool (.fz 116 (.pair (.int .i64) (.int .i64))))))) (.fz 55 (.pair (.int .i64) (.pair (.int .i64) (.fz 3 (.int .i64))))))) ((b1, b2), (b3, b4))), .agg (toL .frz (.pair (.fz 3 (.int .i64)) (.fz 3 (.int .i64))) (b5, b6)), .agg (toL .frz (.pair (.fz 3 (.int .i64)) (.fz 3 (.int .i64))) (b7, b8))]) [(0, .one (.sc (.bool true)))] := (F4.X 1000).ok _ _ ((by kernel_rfl : (F4.X 1000).run (mkEnt 0 [.agg (toL .frz (.pair (.pair (.fz 62 (.pair (.int .i64) .bool)) (.fz 71 (.pair (.int .i64) (.pair (.int .i64) (.pair (.int .i64) (.pair (.int .i64) (.pair .bool (.pair .bool (.pair (.pair (.int .i64) (.int .i64)) (.pair (.int .i64) (.int .i64))))))))))) (.pair (.fz 100 (.pair (.int .i64) (.pair .bool (.pair .bool (.fz 116 (.pair (.int .i64) (.int .i64))))))) (.fz 55 (.pair (.int .i64) (.pair (.int .i64) (.fz 3 (.int .i64))))))) ((b1, b2), (b3, b4))), .agg (toL .frz (.pair (.fz 3 (.int .i64)) (.fz 3 (.int .i64))) (b5, b6)), .agg (toL .frz (.pair (.fz 3 (.int .i64)) (.fz 3 (.int .i64))) (b7, b8))]) some = F4.C 1000 b1 b2 b3 b4 b5 b6 b7 b8 (fun r0 => some (Sh.mk F4.o0 (r0, ())))).trans (certifyErrors (Nat.le_refl _)  b1 b2 b3 b4 b5 b6 b7 b8 _))
  refine (g.lawE (args := [v0, v1, v2]) ⟨VOk.agg (by kernel_rfl) (of_decide_eq_true (by kernel_rfl)) rp0, ⟨VOk.agg (by kernel_rfl) (of_decide_eq_true (by kernel_rfl)) rp1, ⟨VOk.agg (by kernel_rfl) (of_decide_eq_true (by kernel_rfl)) rp2, trivial⟩⟩⟩).mono fun e W' ⟨he, bel⟩ => ?_
  subst he
  exact ⟨_, rfl, _, _, _, [], _, [], hW', trodAll_mk1 (shut_bool Try.underlying4 _), (trodAll_cons_mk (Below.trod laidOut (by kernel_rfl) (of_decide_eq_true (by kernel_rfl)) k0 bel lt0) (trodAll_cons_mk (Below.trod laidOut (by kernel_rfl) (of_decide_eq_true (by kernel_rfl)) k1 bel lt1) (trodAll_cons_mk (Below.trod laidOut (by kernel_rfl) (of_decide_eq_true (by kernel_rfl)) k2 bel lt2) trodAll_mk0))), rfl, bel.frame _, fun h => by cases h⟩
theorem over : Rows.certifyErrorsRow.holds Try.pinned (OpenSpec.ofChange Rows.certifyErrorsSpec) :=
  OpenClaim.holds_of_wide 4 Try.f4 rfl rfl rfl rfl rfl rfl rfl ⟨rfl, rfl, rfl, rfl, rfl⟩ rfl rfl rfl rfl rfl (by kernel_rfl) Try.func4 (by kernel_rfl)
    (of_decide_eq_true (by kernel_rfl)) (by unfold Func.isWrapper; first | (rw [if_pos (by decide +kernel)]; kernel_rfl) | (rw [if_neg (by decide +kernel)]; exact ⟨rfl, rfl⟩))
    (fun os started H enc _ => lifted os started H enc)
theorem proved : Rows.CertifyErrorsSaid := over
end Go.Proofs.Ytmidpecdjddlkaa.certifyErrors
namespace Go.Proofs.Ytmidpecdjddlkaa
/-- The row, under a short name, for the claim. -/
theorem certifyErrors_holds : Rows.CertifyErrorsSaid := certifyErrors.proved
end Go.Proofs.Ytmidpecdjddlkaa
