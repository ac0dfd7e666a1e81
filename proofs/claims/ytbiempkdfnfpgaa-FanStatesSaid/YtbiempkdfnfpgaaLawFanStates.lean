/- It is proved that what a fan gives in each state, at any flow, is what the document's At gives, of made fans and of any fan, as the law FanStates states it; there are no conditions beyond those of the given row. -/
import Derived.Test.YtbiempkdfnfpgaaRows
import Derived.Test.YtbiempkdfnfpgaaPureFanStates
import Derived.Test.YtbiempkdfnfpgaaO
import Derived.WalkKit
import Derived.ProofKit
import Derived.OpenShut
import Derived.ShutString
import Derived.ChangeOld
import Derived.Below
import Derived.SizedLaws
namespace Go.Proofs.Ytbiempkdfnfpgaa.fanStates
open Go.ChangeShapes Go.WideShapes Go.ChangeAt Go.RowKit Go.Proofs.Ytbiempkdfnfpgaa.O Go.Proofs.Ytbiempkdfnfpgaa.PA Go.Proofs.YtbiempkdfnfpgaaW.PrintWords
set_option linter.unusedVariables false
theorem own : ownKnob Try.prog.godebug = none := by kernel_rfl
theorem laidOut : laidOutB Try.prog = true := by kernel_rfl
theorem o22 : Opens Try.prog 22 (Kd.slice 5 (Kd.int .u8)) (fun l => l.length ≤ maxLen ∧ ∀ x ∈ l, (Lit.int .u8 x).wf = true) := Opens.slice Try.underlying22 (by kernel_rfl) (Opens.int Try.underlying5 (by kernel_rfl))
theorem o3 : Opens Try.prog 3 (Kd.int .i64) (fun n => (Lit.int .i64 n).wf = true) := Opens.int Try.underlying3 (by kernel_rfl)
theorem o4 : Opens Try.prog 4 Kd.bool (fun _ => True) := Opens.bool Try.underlying4 (by kernel_rfl)
theorem o42 : Opens Try.prog 42 k42 (fun _ => True) :=
  (Opens.iso (Opens.struct Try.underlying42 (by kernel_rfl) (OpensL.cons rfl o3 (OpensL.one rfl o3))) (fun x : S42 => (x.f0, x.f1)) (fun p => ⟨p.1, p.2⟩) (fun _ => rfl)).imp (fun _ _ => trivial)
theorem o23 : Opens Try.prog 23 (Kd.slice 42 k42) (fun l => l.length ≤ maxLen ∧ ∀ x ∈ l, True) := Opens.slice Try.underlying23 (by kernel_rfl) o42
theorem o25 : Opens Try.prog 25 (Kd.pair (Kd.int .i64) (Kd.pair Kd.bool (Kd.pair Kd.bool (Kd.slice 42 k42)))) (fun _ => True) :=
  (Opens.struct Try.underlying25 (by kernel_rfl) (OpensL.cons rfl o3 (OpensL.cons rfl o4 (OpensL.cons rfl o4 (OpensL.one rfl o23))))).imp (fun _ _ => trivial)
set_option maxHeartbeats 2000000 in
set_option maxRecDepth 100000 in
theorem lifted (os : Os) (started : os.Started) (H : Type) (enc : TypeId × Value → H) :
    ReturnsInHanded {} Try.checked os 5 .any (Rows.fanStatesSpec.pre6 enc Try.prog Try.f5 Rows.fanStatesRow.domain false) (Rows.fanStatesSpec.post enc Try.prog Try.f5 false true false false) := by
  refine returnsInHanded_of_change_sized (C := Try.checked) own started (by kernel_rfl) Try.func5
    (ChangeSpec.witness6 (enc := enc) (C := Try.checked) false ⟨#[], #[.slice none 0 0, .agg #[.int .i64 0, .bool false, .bool false, .slice none 0 0], .int .i64 0, .int .i64 0, .int .i64 0, .int .i64 0], []⟩ 8 (by kernel_rfl) (by kernel_rfl) (by kernel_rfl) (by kernel_rfl)) ?_
  intro W base args ds gs before hval0 hW hcnd hsz0 _
  have hval : ∀ (j : Nat) t v, Try.f5.params[j]? = some t → args[j]? = some v → Value.okWide Try.prog W .any base t v := hval0
  have hW' := hW
  obtain ⟨p, q, hA0, hV, rfl, hfz, hnd⟩ := hW
  have hA : DataW.TrodAll enc Try.prog W 0 (fun _ => true) true Try.f5.params.toList args.toList ds p := hA0
  rw [Try.params5] at hA hval
  obtain ⟨v0, vs0, d0, ds0, p0, q0, hargs, rfl, rfl, h0, r0⟩ := trodAll_cons hA
  obtain ⟨v1, vs1, d1, ds1, p1, q1, rfl, rfl, rfl, h1, r1⟩ := trodAll_cons r0
  obtain ⟨v2, vs2, d2, ds2, p2, q2, rfl, rfl, rfl, h2, r2⟩ := trodAll_cons r1
  obtain ⟨v3, vs3, d3, ds3, p3, q3, rfl, rfl, rfl, h3, r3⟩ := trodAll_cons r2
  obtain ⟨v4, vs4, d4, ds4, p4, q4, rfl, rfl, rfl, h4, r4⟩ := trodAll_cons r3
  obtain ⟨v5, vs5, d5, ds5, p5, q5, rfl, rfl, rfl, h5, r5⟩ := trodAll_cons r4
  obtain ⟨rfl, rfl, rfl⟩ := trodAll_nil r5
  obtain rfl : args = #[v0, v1, v2, v3, v4, v5] := by cases args; simp_all
  obtain ⟨rfl, rfl⟩ := trodVars_none hV
  have k0 := h0
  have k1 := h1
  have lt0 : ∀ x ∈ p0, x.block < W.heap.size := by obtain ⟨m, hm⟩ := k0; exact DataW.trod_lt m _ _ _ hm
  have lt1 : ∀ x ∈ p1, x.block < W.heap.size := by obtain ⟨m, hm⟩ := k1; exact DataW.trod_lt m _ _ _ hm
  obtain ⟨a0, len0, cap0, rfl⟩ := okWide_slice Try.underlying22 (hval 0 22 v0 rfl rfl)
  obtain ⟨l0, ⟨A0, c0, e0, hc0, hC0⟩, _, hb0⟩ := o22.arg h0
  obtain ⟨rfl, rfl, rfl⟩ : a0 = A0 ∧ len0 = l0.length ∧ cap0 = c0 := by simpa [Value.cells] using e0
  obtain ⟨⟨f0, f1, f2, l1⟩, ⟨_, _, e1, rfl, ⟨_, _, rfl, rfl, ⟨_, _, rfl, rfl, ⟨A1, c1, rfl, hc1, hC1⟩⟩⟩⟩, _⟩ := o25.arg h1
  obtain rfl := agg_of e1 (by simp)
  obtain ⟨a2, rfl, rfl, rfl, w2⟩ := open_int Try.underlying3 (hval 2 3 v2 rfl rfl) h2
  obtain ⟨a3, rfl, rfl, rfl, w3⟩ := open_int Try.underlying3 (hval 3 3 v3 rfl rfl) h3
  obtain ⟨a4, rfl, rfl, rfl, w4⟩ := open_int Try.underlying3 (hval 4 3 v4 rfl rfl) h4
  obtain ⟨a5, rfl, rfl, rfl, w5⟩ := open_int Try.underlying3 (hval 5 3 v5 rfl rfl) h5
  clear hA0 hval0 hsz0
  obtain ⟨k, hk⟩ := Pure.FanStates l0 f0 f1 f2 l1 a2 a3 a4 a5 hb0
  refine (minecontrollaw07_FanStates.calls k a0 cap0 l0 f0 f1 f2 (fun _ => True) A1 c1 l1 a2 a3 a4 a5 true W hC0 hc0 (V_of (Ho.iso (Ho.pair (Ho.int .i64) (Ho.int .i64)) _) hc1 hC1) hk).mono fun e W' ⟨he, bel⟩ => ?_
  subst he
  exact ⟨_, rfl, _, _, _, [], _, [], hW', trodAll_mk1 (shut_bool Try.underlying4 _), (trodAll_cons_mk (Below.trod laidOut (by kernel_rfl) (of_decide_eq_true (by kernel_rfl)) k0 bel lt0) (trodAll_cons_mk (Below.trod laidOut (by kernel_rfl) (of_decide_eq_true (by kernel_rfl)) k1 bel lt1) (trodAll_cons_mk (shut_int Try.underlying3 w2) (trodAll_cons_mk (shut_int Try.underlying3 w3) (trodAll_cons_mk (shut_int Try.underlying3 w4) (trodAll_cons_mk (shut_int Try.underlying3 w5) trodAll_mk0)))))), rfl, bel.frame _, fun h => by cases h⟩
theorem over : Rows.fanStatesRow.holds Try.pinned (OpenSpec.ofChange Rows.fanStatesSpec) :=
  OpenClaim.holds_of_wide 5 Try.f5 rfl rfl rfl rfl rfl rfl rfl ⟨rfl, rfl, rfl, rfl, rfl⟩ rfl rfl rfl rfl rfl (by kernel_rfl) Try.func5 (by kernel_rfl)
    (of_decide_eq_true (by kernel_rfl)) (by unfold Func.isWrapper; first | (rw [if_pos (by decide +kernel)]; kernel_rfl) | (rw [if_neg (by decide +kernel)]; exact ⟨rfl, rfl⟩))
    (fun os started H enc _ => lifted os started H enc)
theorem proved : Rows.FanStatesSaid := over
end Go.Proofs.Ytbiempkdfnfpgaa.fanStates
namespace Go.Proofs.Ytbiempkdfnfpgaa
/-- The row, under a short name, for the claim. -/
theorem fanStates_holds : Rows.FanStatesSaid := fanStates.proved
end Go.Proofs.Ytbiempkdfnfpgaa
