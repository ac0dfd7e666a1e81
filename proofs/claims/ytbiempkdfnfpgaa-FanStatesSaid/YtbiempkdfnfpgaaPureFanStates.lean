/- What the law FanStates needs of whole numbers and lists. -/
import Derived.Test.YtbiempkdfnfpgaaPAx14
import Derived.Test.YtbiempkdfnfpgaaM4r
import Derived.Test.YtbiempkdfnfpgaaM6
namespace Go.Proofs.Ytbiempkdfnfpgaa.Pure
set_option linter.unusedSimpArgs false
open Go.RowKit Go.Proofs.Ytbiempkdfnfpgaa.PA Go.Proofs.YtbiempkdfnfpgaaW.PrintWords Go.Proofs.YtbiempkdfnfpgaaW.PrintLast Go.Proofs.Ytbiempkdfnfpgaa.M

theorem states_round (xs : List S25) (s q u v n : Int) (i : Nat) (hi : i < xs.length) (hn : n = (xs.length : Int)) (h8 : xs.length ≤ 8)
    (ih : Ev (fun k => minecontrollaw07_FanStates.l0 k s q u v xs n ((i + 1 : Nat) : Int)) true) : Ev (fun k => minecontrollaw07_FanStates.l0 k s q u v xs n (i : Int)) true := by
  subst hn
  apply Ev.succ
  simp only [minecontrollaw07_FanStates.l0, if_pos (show (i : Int) < (xs.length : Int) by omega), if_pos (show (0 : Int) ≤ (i : Int) by omega)]
  refine Ev.bind (fan_At_ev _ _ _ _ _ _) (Ev.bind (ref_At _ _ _ _ _ _) ?_)
  simp only [beq_self_eq_true, Bool.not_true, Bool.or_self, Bool.false_eq_true, if_false]
  refine Ev.bind (fan_At_ev _ _ _ _ _ _) (Ev.bind (ref_At _ _ _ _ _ _) ?_)
  simp only [beq_self_eq_true, Bool.not_true, Bool.or_self, Bool.false_eq_true, if_false]
  refine Ev.bind (fan_At_ev _ _ _ _ _ _) (Ev.bind (ref_At _ _ _ _ _ _) ?_)
  simp only [beq_self_eq_true, Bool.not_true, Bool.or_self, Bool.false_eq_true, if_false]
  rw [show wrap64 ((i : Int) + 1) = ((i + 1 : Nat) : Int) by rw [w64 (by omega) (by omega)]; omega]
  exact ih
theorem states_end (xs : List S25) (s q u v n : Int) (i : Int) (hi : ¬ i < n) : Ev (fun k => minecontrollaw07_FanStates.l0 k s q u v xs n i) true := by
  apply Ev.succ
  simp only [minecontrollaw07_FanStates.l0, if_neg hi]
  exact Ev.bindK awake07 rfl

theorem FanStates (l0 : List Int) (r : Int) (b1 b2 : Bool) (xs : List S42) (a2 a3 a4 a5 : Int) (hb : ∀ x ∈ l0, (Lit.int .u8 x).wf = true) : ∃ k, minecontrollaw07_FanStates.f k l0 r b1 b2 xs a2 a3 a4 a5 = some true := by
  obtain ⟨r', b', xs', hm, x1, x8⟩ := made_ev (fun x hx => wf_u8 (hb x hx)) a2 a3
  obtain ⟨t, ht, _⟩ := mod_ev a5 300 (by omega)
  obtain ⟨t', ht', _⟩ := mod_ev a4 6 (by omega)
  refine Ev.rounds ?_
  unfold minecontrollaw07_FanStates.f
  refine Ev.bindC ht (Ev.bindC ht' (Ev.bind hm (Ev.bindC rfl ?_)))
  exact states_round _ _ _ _ _ _ 0 (by simp) rfl (by simp) (states_round _ _ _ _ _ _ 1 (by simp) rfl (by simp) (states_end _ _ _ _ _ _ _ (by simp)))
end Go.Proofs.Ytbiempkdfnfpgaa.Pure
