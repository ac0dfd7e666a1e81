/- It is proved that at a greater flow neither end of what a fan gives is greater, in any state, as the law FanFalls states it; there are no conditions beyond those of the given row. -/
import Derived.Test.YtbiempkdfnfpgaaPAx14
import Derived.Test.YtbiempkdfnfpgaaM6
namespace Go.Proofs.Ytbiempkdfnfpgaa.Pure
set_option linter.unusedSimpArgs false
open Go.RowKit Go.Proofs.Ytbiempkdfnfpgaa.PA Go.Proofs.YtbiempkdfnfpgaaW.PrintWords Go.Proofs.YtbiempkdfnfpgaaW.PrintLast Go.Proofs.Ytbiempkdfnfpgaa.M

theorem FanFalls : minecontrollaw07_FanFalls.Pure := by
  intro l0 a1 a2 a3 _ _ hb _ w2 w3
  obtain ⟨r, b, xs, hm, x1, x8⟩ := made_ev (fun x hx => wf_u8 (hb x hx)) 0 0
  obtain ⟨t, ht, t0, t1, _⟩ := mod_ev a1 400 (by omega)
  have t1 := (t1 (by omega)).1
  have b2 := wf_u8 w2; have b3 := wf_u8 w3
  have es : wrap64 (Int.tmod (wrap64 a3) 4 - 1) = a3 % 4 - 1 := by
    rw [w64 (x := a3) (by omega) (by omega), Int.tmod_eq_emod_of_nonneg b3.1, w64 (by omega) (by omega)]
  have eq : wrap64 (t - 200) = t - 200 := w64 (by omega) (by omega)
  have eq2 : wrap64 (t - 200 + wrap64 a2) = t - 200 + a2 := by rw [w64 (x := a2) (by omega) (by omega), w64 (by omega) (by omega)]
  refine Ev.rounds ?_
  unfold minecontrollaw07_FanFalls.f
  refine Ev.bind hm (Ev.bind (ref_check r b false xs) ?_)
  by_cases c : ck r xs = 0
  · simp only [if_pos c, es, eq, eq2]
    refine Ev.bindC ht ?_
    simp only [eq, eq2]
    refine Ev.bind (fan_At_ev r b false xs _ _) (Ev.bind (fan_At_ev r b false xs _ _) ?_)
    have hg := good_of_ck c
    rw [atS_good c (by omega) (by omega) (by omega) (by omega), atS_good c (by omega) (by omega) (by omega) (by omega)]
    have h1 := sure_bd hg b (a3 % 4 - 1) (t - 200)
    have h2 := sure_anti hg b (a3 % 4 - 1) (show t - 200 ≤ t - 200 + a2 by omega)
    have e3 : wrap64 ((sure xs b (a3 % 4 - 1) (t - 200)).2 - (sure xs b (a3 % 4 - 1) (t - 200)).1) = (sure xs b (a3 % 4 - 1) (t - 200)).2 - (sure xs b (a3 % 4 - 1) (t - 200)).1 := w64 (by omega) (by omega)
    simp only [e3, if_pos h1.2.1, if_pos (show (sure xs b (a3 % 4 - 1) (t - 200)).2 - (sure xs b (a3 % 4 - 1) (t - 200)).1 ≥ 0 by omega), if_pos h2.1, if_pos h2.2]
    exact Ev.bindK awake07 rfl
  · simp only [if_neg c]
    exact Ev.bindK awake07 rfl
end Go.Proofs.Ytbiempkdfnfpgaa.Pure
