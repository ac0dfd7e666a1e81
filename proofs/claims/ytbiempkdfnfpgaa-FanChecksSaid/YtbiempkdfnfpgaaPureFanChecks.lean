/- What the law FanChecks needs of whole numbers and lists. -/
import Derived.Test.YtbiempkdfnfpgaaPAx9
import Derived.Test.YtbiempkdfnfpgaaM6
namespace Go.Proofs.Ytbiempkdfnfpgaa.Pure
set_option linter.unusedSimpArgs false
open Go.RowKit Go.Proofs.Ytbiempkdfnfpgaa.PA Go.Proofs.YtbiempkdfnfpgaaW.PrintWords Go.Proofs.YtbiempkdfnfpgaaW.PrintLast Go.Proofs.Ytbiempkdfnfpgaa.M

theorem FanChecks (l0 : List Int) (r : Int) (b1 b2 : Bool) (xs : List S42) (a2 a3 : Int) (hb : ∀ x ∈ l0, (Lit.int .u8 x).wf = true) : ∃ k, minecontrollaw07_FanChecks.f k l0 r b1 b2 xs a2 a3 = some true := by
  obtain ⟨r', b', xs', hm, x1, x8⟩ := made_ev (fun x hx => wf_u8 (hb x hx)) a2 a3
  refine Ev.rounds ?_
  unfold minecontrollaw07_FanChecks.f
  refine Ev.bind hm (Ev.bind (fan_check r' b' false xs') (Ev.bind (ref_check r' b' false xs') ?_))
  simp only [if_true]
  refine Ev.bind (fan_check r b1 b2 xs) (Ev.bind (ref_check r b1 b2 xs) ?_)
  simp only [if_true]
  exact Ev.bindK awake07 rfl
end Go.Proofs.Ytbiempkdfnfpgaa.Pure
