/- It is proved that a fan that is turned round and reversed is the same, that reversing turns everything round, and that an unknown state contains all others, as the law FanTurns states it; there are no conditions beyond those of the given row. -/
import Derived.Test.YtbiempkdfnfpgaaPAx16
import Derived.Test.YtbiempkdfnfpgaaM6
namespace Go.Proofs.Ytbiempkdfnfpgaa.Pure
set_option linter.unusedSimpArgs false
open Go.RowKit Go.Proofs.Ytbiempkdfnfpgaa.PA Go.Proofs.YtbiempkdfnfpgaaW.PrintWords Go.Proofs.YtbiempkdfnfpgaaW.PrintLast Go.Proofs.Ytbiempkdfnfpgaa.M

theorem al_turn (l : List S42) (b : Bool) (q : Int) : al l (!b) q = (-(al l b (-q)).2, -(al l b (-q)).1) := by
  unfold al; cases b <;> simp

theorem FanTurns : minecontrollaw07_FanTurns.Pure := by
  intro l0 a1 _ _ hb _
  obtain ⟨r, b, xs, hm, x1, x8⟩ := made_ev (fun x hx => wf_u8 (hb x hx)) 0 0
  obtain ⟨t, ht, t0, t1, _⟩ := mod_ev a1 400 (by omega)
  have t1 := (t1 (by omega)).1
  have eq : wrap64 (t - 200) = t - 200 := w64 (by omega) (by omega)
  have eq2 : wrap64 (-(t - 200)) = -(t - 200) := w64 (by omega) (by omega)
  refine Ev.rounds ?_
  unfold minecontrollaw07_FanTurns.f
  refine Ev.bind hm (Ev.bind (ref_check r b false xs) ?_)
  by_cases c : ck r xs = 0
  · simp only [if_pos c]
    refine Ev.bindC ht ?_
    simp only [eq, eq2]
    have hg := good_of_ck c
    have at_ : ∀ (b : Bool) (s q : Int), -1 ≤ s → s ≤ 2 → -1048577 ≤ q → q ≤ 1048577 → Ev (fun k => fan_At.f k r b false xs s q) (sure xs b s q) := fun b s q h1 h2 h3 h4 => by
      have := fan_At_ev r b false xs s q
      rwa [atS_good c h1 h2 h3 h4] at this
    have e1 : sure xs b 1 (t - 200) = al xs b (t - 200) := rfl
    have e2 : sure xs b 2 (t - 200) = al xs (!b) (t - 200) := rfl
    have e3 : sure xs b 1 (-(t - 200)) = al xs b (-(t - 200)) := rfl
    have e4 : sure xs (!b) 2 (t - 200) = al xs b (t - 200) := by show al xs (!!b) _ = _; rw [Bool.not_not]
    have e5 : sure xs (!b) 1 (t - 200) = al xs (!b) (t - 200) := rfl
    have a1 := at_ b 1 (t - 200) (by omega) (by omega) (by omega) (by omega)
    have a2 := at_ b 2 (t - 200) (by omega) (by omega) (by omega) (by omega)
    have a3 := at_ b (-1) (t - 200) (by omega) (by omega) (by omega) (by omega)
    have a4 := at_ b 1 (-(t - 200)) (by omega) (by omega) (by omega) (by omega)
    have a5 := at_ (!b) 2 (t - 200) (by omega) (by omega) (by omega) (by omega)
    have a6 := at_ (!b) 1 (t - 200) (by omega) (by omega) (by omega) (by omega)
    rw [e1] at a1; rw [e2] at a2; rw [e3] at a4; rw [e4] at a5; rw [e5] at a6
    have d1 := al_bd hg b (-(t - 200))
    have hu := al_turn xs b (t - 200)
    have n1 : wrap64 (-(al xs b (-(t - 200))).2) = (al xs (!b) (t - 200)).1 := by rw [hu, w64 (by omega) (by omega)]
    have n2 : wrap64 (-(al xs b (-(t - 200))).1) = (al xs (!b) (t - 200)).2 := by rw [hu, w64 (by omega) (by omega)]
    have m : (sure xs b (-1) (t - 200)).1 ≤ mn (mn (al xs b (t - 200)).1 (al xs (!b) (t - 200)).1) 0 ∧ (sure xs b (-1) (t - 200)).2 ≥ mx (mx (al xs b (t - 200)).2 (al xs (!b) (t - 200)).2) 0 := by
      show min 0 (min (al xs false (t - 200)).1 (al xs true (t - 200)).1) ≤ _ ∧ max 0 (max (al xs false (t - 200)).2 (al xs true (t - 200)).2) ≥ _
      simp only [mn_eq, mx_eq]
      cases b
      · simp only [Bool.not_false]; omega
      · simp only [Bool.not_true]; omega
    refine Ev.bind a1 (Ev.bind a2 (Ev.bind a3 (Ev.bind a4 (Ev.bind a5 ?_))))
    simp only [beq_self_eq_true, Bool.and_self, if_true]
    refine Ev.bind a6 ?_
    simp only [beq_self_eq_true, Bool.and_self, if_true, n1, n2, if_pos m.1, if_pos m.2]
    exact Ev.bindK awake07 rfl
  · simp only [if_neg c]
    exact Ev.bindK awake07 rfl
end Go.Proofs.Ytbiempkdfnfpgaa.Pure
