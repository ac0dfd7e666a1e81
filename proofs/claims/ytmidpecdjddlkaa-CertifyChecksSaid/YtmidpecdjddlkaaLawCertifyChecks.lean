/- It is proved that certify.Check and certify.Flows answer what the document says at every drawn air, as the law CertifyChecks states it; there are no conditions beyond those of the given row. -/
import Derived.Test.YtmidpecdjddlkaaZe
import Derived.Test.YtmidpecdjddlkaaRows
import Derived.WalkKit
import Derived.ProofKit
import Derived.OpenShut
import Derived.ShutString
import Derived.ChangeOld
import Derived.Below
import Derived.SizedLaws
/- minecontrol/minecontrollaw11.CertifyChecks -/
namespace Go.Vi.B
open Go.Proofs
set_option linter.unusedVariables false
set_option maxRecDepth 100000
abbrev F3.i : Sh := [(0, .one (.lst .pin 5 (.int .u8))), (2, .agg [.lst .frz 3 .i, .lst .frz 3 .i])]
abbrev F3.o0 : Sh := [(0, .one .bool)]
noncomputable def F3.l6 {β : Type} (N : Nat) : Nat → Bool → (List Pl) → (List Ro) → (List Fa) → (List Do) → (List Int) → (List Int) → (List Int) → (List Int) → (List ((List Int) × (List Int))) → Int → Int → (Bool → Option β) → (Bool → List Pl → List Ro → List Fa → List Do → List Int → List Int → List Int → List Int → (List ((List Int) × (List Int))) → Int → Int → Bool → Option β) → Option β
 | 0, _, _, _, _, _, _, _, _, _, _, _, _, _, _ => none
 | n + 1, v0, v1, v2, v3, v4, v5, v6, v7, v8, v9, v10, v11, k0, k1 =>
  bl (v11 < v10) (k1 v0 v1 v2 v3 v4 v5 v6 v7 v8 v9 v10 v11 (decide (v11 < v10))) <|
  ck (0 ≤ v11) <|
  ge (v9[v11.toNat]?) fun _ =>
  ge (v9[v11.toNat]?) fun x2 =>
  F12.C N v1 v2 v3 v4 v5 v6 x2.1 x2.2 fun r3 =>
  F13.C N v1 v2 v3 v4 v5 v6 x2.1 x2.2 fun r4 =>
  br (r3 != r4) (k0 false) <|
  F12.C N v1 v2 v3 v4 v7 v8 x2.1 x2.2 fun r5 =>
  F13.C N v1 v2 v3 v4 v7 v8 x2.1 x2.2 fun r6 =>
  br (r5 != r6) (k0 false) <|
  F15.C N v1 v2 v3 v4 v5 v6 x2.1 x2.2 fun r7 =>
  F16.C N v1 v2 v3 v4 v5 v6 x2.1 x2.2 fun r8 =>
  F14.C N r7 r8 fun r9 =>
  br (!r9) (k0 false) <|
  F3.l6 N n v0 v1 v2 v3 v4 v5 v6 v7 v8 v9 v10 (w (v11 + 1)) k0 k1
noncomputable def F3.K {β : Type} (N : Nat) (a0 a1 a2 : List Int) (k0 : Bool → Option β) : Option β :=
 F8.C N a0 fun r1 r2 =>
 F9.C N r1 r2 fun r3 r4 r5 r6 r7 r8 r9 r10 r11 r12 =>
 F10.C N r11 r12 r5 r6 r7 r8 r9 r10 r3 r4 fun r13 r14 r15 r16 =>
 F11.C N r15 r16 r5 r6 r7 r8 fun r17 r18 _ _ =>
 F3.l6 N N false r5 r6 r7 r8 r9 r10 r17 r18 [(r13, r14), (a1, a2), (r3, r3)] ([(r13, r14), (a1, a2), (r3, r3)].length : Int) 0 (fun z21 => k0 z21) fun _ _ _ _ _ _ _ _ _ _ _ _ _ =>
 F17.C N fun r35 =>
 k0 r35
noncomputable def F3.fx : Fx := ⟨Try.prog, [], [8], [(0,[0,3,4]),(1,[3,4,5]),(2,[3,4,5,6,7,8]),(3,[3,4,5,6,7,8,9]),(4,[3,4,6,7,8,9,10]),(5,[4,6,7,10,36,37,38]),(6,[4,6,7,10,36,37,38,39]),(7,[4,6,7,10,12,36,37,38]),(8,[4,6,7,10,36,37,38,73]),(9,[4]),(10,[4,6,7,10,36,37,38]),(11,[4])], 76, []⟩
noncomputable def F3.cs (N : Nat) : List (Ctr Try.prog) := [F8.X N, F9.X N, F10.X N, F11.X N, F12.X N, F13.X N, F15.X N, F16.X N, F14.X N, F17.X N]
abbrev F3.s6 : Sh := [(8, .one .bool), (12, .one (.addr 6 0)), (13, .slot false [.lst .own 62 kd1, .lst .own 71 kd8, .lst .own 100 kd11, .lst .own 55 kd13]), (14, .one (.addr 7 0)), (15, .slot false [.lst .own 3 .i, .lst .own 3 .i]), (20, .one (.addr 10 0)), (21, .slot false [.lst .own 3 .i, .lst .own 3 .i]), (72, .one (.view 36 0)), (73, .slot true [.lst .own 25 kd17]), (74, .one .i), (76, .one .i)]
abbrev F3.e6_0 : Sh := [(8, .one .bool)]
abbrev F3.e6_1 : Sh := [(8, .one .bool), (12, .one (.addr 6 0)), (13, .slot false [.lst .own 62 kd1, .lst .own 71 kd8, .lst .own 100 kd11, .lst .own 55 kd13]), (14, .one (.addr 7 0)), (15, .slot false [.lst .own 3 .i, .lst .own 3 .i]), (20, .one (.addr 10 0)), (21, .slot false [.lst .own 3 .i, .lst .own 3 .i]), (72, .one (.view 36 0)), (73, .slot true [.lst .own 25 kd17]), (74, .one .i), (76, .one .i), (78, .one .bool)]
noncomputable def F3.X6 (N : Nat) : LpC Try.prog F3.fx := mkL (F3.cs N) [] ((loopsOf (bodyOf Try.f3)).getD 0 .skip) 6 [4,6,7,10,36,37,38] (by kernel_rfl) (by kernel_rfl) (by kernel_rfl) F3.s6 (fun n x k => F3.l6 N n x.1 x.2.1 x.2.2.1 x.2.2.2.1 x.2.2.2.2.1 x.2.2.2.2.2.1 x.2.2.2.2.2.2.1 x.2.2.2.2.2.2.2.1 x.2.2.2.2.2.2.2.2.1 x.2.2.2.2.2.2.2.2.2.1 x.2.2.2.2.2.2.2.2.2.2.1 x.2.2.2.2.2.2.2.2.2.2.2.1 (fun r0 => k (.ret) (Sh.mk F3.e6_0 (r0, ()))) (fun r0 r1 r2 r3 r4 r5 r6 r7 r8 r9 r10 r11 r12 => k (.exit 0) (Sh.mk F3.e6_1 (r0, r1, r2, r3, r4, r5, r6, r7, r8, r9, r10, r11, r12, ())))) (fun _ _ => rfl) (fun _ _ _ => by kernel_rfl) N
noncomputable def F3.C {β : Type} (N : Nat) := (Sealed fun β => @F3.K β).1 β N
theorem F3.C_eq {β : Type} (N : Nat) : @F3.C β N = @F3.K β N := congrFun (congrFun (Sealed fun β => @F3.K β).2 β) N
noncomputable def F3.X (N : Nat) : Ctr Try.prog := mkF 3 Try.f3 F3.fx (F3.cs N) [F3.X6 N] F3.i (fun x k => F3.C N x.1 x.2.1 x.2.2.1 (fun r0 => k (Sh.mk F3.o0 (r0, ())))) (by intros; rw [F3.C_eq]; kernel_rfl) (by kernel_rfl) (by kernel_rfl) (by kernel_rfl) (by kernel_rfl) rfl (by kernel_rfl) rfl (by kernel_rfl) (by kernel_rfl) (by kernel_rfl) (.dead _ 3) rfl
end Go.Vi.B
/- CertifyChecks, its residual: true. -/
namespace Go.Vi.B
open Go.Proofs Go.Vi.A
set_option linter.unusedVariables false
set_option linter.unusedSimpArgs false
variable {β : Type} {N : Nat} (hN : 1000 ≤ N)
include hN in
theorem checks_three (pl : List Pl) (ro : List Ro) (fa : List Fa) (dr : List Do) (sf sd sf' sd' : List Int) (xs : List (List Int × List Int)) (hx : xs.length ≤ 100) (K0 k : Bool → Option β) :
    (F3.l6 N N false pl ro fa dr sf sd sf' sd' xs (xs.length : Int) 0 K0 fun _ _ _ _ _ _ _ _ _ _ _ _ _ => k true) = k true := by
  obtain ⟨s, hs, e⟩ := lfor (len := xs.length) (L := fun n j (_ : Unit) => F3.l6 N n false pl ro fa dr sf sd sf' sd' xs (xs.length : Int) (j : Int) K0 fun _ _ _ _ _ _ _ _ _ _ _ _ _ => k true) (k := fun _ => k true) (fun _ _ => True)
    (fun n s hs => by simp only [F3.l6, res, Int.lt_irrefl, if_false])
    (fun j s hj hs => by
      obtain ⟨x, hx'⟩ := getl hj
      refine ⟨(), trivial, fun n => ?_⟩
      simp only [F3.l6, res, Int.toNat_natCast, hx', ge_some, w_succ (show j < 4000000000 by omega), certify_Check hN, ref11_Check hN, certify_Flows hN, ref11_Flows hN, ref01_Spans hN (flowsL_len _ _ _ _ _ _ _ _ _), bne_self_eq_false, if_true]
      rw [if_pos (by omega)]
      first | rfl | rw [if_pos (by omega)]) 0 () N trivial (by omega) (by omega)
  exact e
include hN in
theorem certifyChecks {a0 : List Int} (h0 : ∀ x ∈ a0, 0 ≤ x ∧ x ≤ 255) (a1 a2 : List Int) (k : Bool → Option β) : F3.C N a0 a1 a2 k = k true := by
  obtain ⟨l, c0, e0⟩ := draw_New (β := β) (N := N) h0
  obtain ⟨pl, ro, fa, dr, sf, sd, xp, xq, b1, c1, m1, e1⟩ := draw_Made (β := β) hN c0
  obtain ⟨lo, hi, b2, _, _, c2, e2⟩ := law11_bounds (β := β) hN m1 c1
  obtain ⟨sf', sd', b3, c3, _, e3⟩ := draw_Setting (β := β) hN c2 pl ro (fa := fa) (dr := dr) (by have := m1.nfa; omega) (by have := m1.ndr; omega) (fun d hd => by have := m1.rest d hd; omega)
  rw [F3.C_eq]; unfold F3.K
  rw [e0, e1, e2, e3]
  simp only [awake11 hN]
  exact checks_three hN pl ro fa dr sf sd sf' sd' [(lo, hi), (a1, a2), (xp, xp)] (by simp) _ k
end Go.Vi.B
namespace Go.Proofs.Ytmidpecdjddlkaa.certifyChecks
open Go.ChangeShapes Go.WideShapes Go.ChangeAt Go.RowKit Go.Vi Go.Vi.A Go.Vi.B
set_option linter.unusedVariables false
theorem own : ownKnob Try.prog.godebug = none := by kernel_rfl
theorem laidOut : laidOutB Try.prog = true := by kernel_rfl
theorem o5 : Opn Try.prog 5 (.int .u8) := Opn.int Try.underlying5 (by kernel_rfl)
theorem o22 : Opn Try.prog 22 (.fz 5 (.int .u8)) := Opn.slice Try.underlying22 (by kernel_rfl) o5
theorem o3 : Opn Try.prog 3 (.int .i64) := Opn.int Try.underlying3 (by kernel_rfl)
theorem o23 : Opn Try.prog 23 (.fz 3 (.int .i64)) := Opn.slice Try.underlying23 (by kernel_rfl) o3
theorem o25 : Opn Try.prog 25 (.pair (.fz 3 (.int .i64)) (.fz 3 (.int .i64))) := Opn.struct Try.underlying25 (by kernel_rfl) (OpnL.cons rfl o23 (OpnL.one rfl o23))
set_option maxHeartbeats 2000000 in
set_option maxRecDepth 100000 in
theorem lifted (os : Os) (started : os.Started) (H : Type) (enc : TypeId × Value → H) :
    ReturnsInHanded {} Try.checked os 3 .any (Rows.certifyChecksSpec.pre6 enc Try.prog Try.f3 Rows.certifyChecksRow.domain false) (Rows.certifyChecksSpec.post enc Try.prog Try.f3 false true false false) := by
  refine returnsInHanded_of_change_sized (C := Try.checked) own started (by kernel_rfl) Try.func3
    (ChangeSpec.witness6 (enc := enc) (C := Try.checked) false ⟨#[], #[.slice none 0 0, .agg #[.slice none 0 0, .slice none 0 0]], []⟩ 8 (by kernel_rfl) (by kernel_rfl) (by kernel_rfl) (by kernel_rfl)) ?_
  intro W base args ds gs before hval0 hW hcnd hsz0 _
  have hval : ∀ (j : Nat) t v, Try.f3.params[j]? = some t → args[j]? = some v → Value.okWide Try.prog W .any base t v := hval0
  have hW' := hW
  obtain ⟨p, q, hA0, hV, rfl, hfz, hnd⟩ := hW
  have hA : DataW.TrodAll enc Try.prog W 0 (fun _ => true) true Try.f3.params.toList args.toList ds p := hA0
  rw [Try.params3] at hA hval
  obtain ⟨v0, vs0, d0, ds0, p0, q0, hargs, rfl, rfl, h0, r0⟩ := trodAll_cons hA
  obtain ⟨v1, vs1, d1, ds1, p1, q1, rfl, rfl, rfl, h1, r1⟩ := trodAll_cons r0
  obtain ⟨rfl, rfl, rfl⟩ := trodAll_nil r1
  obtain rfl : args = #[v0, v1] := by cases args; simp_all
  obtain ⟨rfl, rfl⟩ := trodVars_none hV
  have k0 := h0
  have lt0 : ∀ x ∈ p0, x.block < W.heap.size := by obtain ⟨m, hm⟩ := k0; exact DataW.trod_lt m _ _ _ hm
  have k1 := h1
  have lt1 : ∀ x ∈ p1, x.block < W.heap.size := by obtain ⟨m, hm⟩ := k1; exact DataW.trod_lt m _ _ _ hm
  obtain ⟨A0, len0, cap0, rfl⟩ := okWide_slice Try.underlying22 (hval 0 22 v0 rfl rfl)
  obtain ⟨a0, f0, rp0, _, w0⟩ := o22.arg h0
  obtain ⟨⟨b1, b2⟩, f1, rp1, _, w1⟩ := o25.arg h1
  clear hA0 hval0 hsz0
  have g : GoF Try.prog 3 (mkEnt 0 [.one (.lst .pin 5 (.int .u8) a0), .agg (toL .frz (.pair (.fz 3 (.int .i64)) (.fz 3 (.int .i64))) (b1, b2))]) [(0, .one (.sc (.bool true)))] := (F3.X 1000).ok _ _ ((by kernel_rfl : (F3.X 1000).run (mkEnt 0 [.one (.lst .pin 5 (.int .u8) a0), .agg (toL .frz (.pair (.fz 3 (.int .i64)) (.fz 3 (.int .i64))) (b1, b2))]) some = F3.C 1000 a0 b1 b2 (fun r0 => some (Sh.mk F3.o0 (r0, ())))).trans (certifyChecks (Nat.le_refl _) (fun x hx => wf_u8 (w0.2 x hx)) b1 b2 _))
  refine (g.lawE (args := [.slice A0 len0 cap0, v1]) ⟨VOk.list (by decide) rp0, ⟨VOk.agg (by kernel_rfl) (of_decide_eq_true (by kernel_rfl)) rp1, trivial⟩⟩).mono fun e W' ⟨he, bel⟩ => ?_
  subst he
  exact ⟨_, rfl, _, _, _, [], _, [], hW', trodAll_mk1 (shut_bool Try.underlying4 _), (trodAll_cons_mk (Below.trod laidOut (by kernel_rfl) (of_decide_eq_true (by kernel_rfl)) k0 bel lt0) (trodAll_cons_mk (Below.trod laidOut (by kernel_rfl) (of_decide_eq_true (by kernel_rfl)) k1 bel lt1) trodAll_mk0)), rfl, bel.frame _, fun h => by cases h⟩
theorem over : Rows.certifyChecksRow.holds Try.pinned (OpenSpec.ofChange Rows.certifyChecksSpec) :=
  OpenClaim.holds_of_wide 3 Try.f3 rfl rfl rfl rfl rfl rfl rfl ⟨rfl, rfl, rfl, rfl, rfl⟩ rfl rfl rfl rfl rfl (by kernel_rfl) Try.func3 (by kernel_rfl)
    (of_decide_eq_true (by kernel_rfl)) (by unfold Func.isWrapper; first | (rw [if_pos (by decide +kernel)]; kernel_rfl) | (rw [if_neg (by decide +kernel)]; exact ⟨rfl, rfl⟩))
    (fun os started H enc _ => lifted os started H enc)
theorem proved : Rows.CertifyChecksSaid := over
end Go.Proofs.Ytmidpecdjddlkaa.certifyChecks
namespace Go.Proofs.Ytmidpecdjddlkaa
/-- The row, under a short name, for the claim. -/
theorem certifyChecks_holds : Rows.CertifyChecksSaid := certifyChecks.proved
end Go.Proofs.Ytmidpecdjddlkaa
