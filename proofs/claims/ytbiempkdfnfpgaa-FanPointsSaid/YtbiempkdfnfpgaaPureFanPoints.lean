/- It is proved that a curve passes through its points, and lies between two neighbouring ones, as the law FanPoints states it; there are no conditions beyond those of the given row. -/
import Derived.Test.YtbiempkdfnfpgaaPAx16
import Derived.Test.YtbiempkdfnfpgaaM6
namespace Go.Proofs.Ytbiempkdfnfpgaa.Pure
set_option linter.unusedSimpArgs false
open Go.RowKit Go.Proofs.Ytbiempkdfnfpgaa.PA Go.Proofs.YtbiempkdfnfpgaaW.PrintWords Go.Proofs.YtbiempkdfnfpgaaW.PrintLast Go.Proofs.Ytbiempkdfnfpgaa.M

theorem FanPoints : minecontrollaw07_FanPoints.Pure := by
  intro l0 a1 a2 _ _ hb _ w2
  obtain ⟨r, b, xs, hm, x1, x8⟩ := made_ev (fun x hx => wf_u8 (hb x hx)) 0 0
  obtain ⟨t, ht, t0, t1, _⟩ := mod_ev a1 (xs.length : Int) (by omega)
  have t1 := (t1 (by omega)).1
  have b2 := wf_u8 w2
  refine Ev.rounds ?_
  unfold minecontrollaw07_FanPoints.f
  refine Ev.bind hm (Ev.bind (ref_check r b false xs) ?_)
  by_cases c : ck r xs = 0
  · simp only [if_pos c]
    refine Ev.bindC ht ?_
    have hg := good_of_ck c
    obtain ⟨i, rfl⟩ := Int.eq_ofNat_of_zero_le t0
    have hi : i < xs.length := by omega
    have cu : ∀ q, Ev (fun k => fan_Curve.f k r b false xs q) (cv xs q) := fun q => by
      have := fan_Curve_ev r b false xs q
      rwa [if_pos c] at this
    simp only [if_pos t0, if_pos t1, rd_ptAt]
    refine Ev.bind (cu _) ?_
    rw [cv_at hg hi]
    have e1 : wrap64 ((i : Int) + 1) = ((i + 1 : Nat) : Int) := by rw [w64 (by omega) (by omega)]; omega
    simp only [beq_self_eq_true, Bool.not_true, Bool.or_self, Bool.false_eq_true, if_false, e1, rd_ptAt]
    by_cases e : ((i + 1 : Nat) : Int) = (xs.length : Int)
    · simp only [if_pos e]
      exact Ev.bindK awake07 rfl
    · have hi2 : i + 1 < xs.length := by omega
      have hn := good_nb hg hi2
      have g1 := hn.a0; have g2 := hn.b0; have g3 := hn.lt; have g4 := hn.b1; have g5 := hn.ge; have g6 := hn.a1
      have e3 : wrap64 ((ptAt xs (i + 1)).f0 - (ptAt xs i).f0) = (ptAt xs (i + 1)).f0 - (ptAt xs i).f0 := w64 (by omega) (by omega)
      have e4 : wrap64 ((ptAt xs (i + 1)).f0 - (ptAt xs i).f0 + 1) = (ptAt xs (i + 1)).f0 - (ptAt xs i).f0 + 1 := w64 (by omega) (by omega)
      have e5 : wrap64 a2 = a2 := w64 (by omega) (by omega)
      have m := tmod_bd b2.1 (show 0 < (ptAt xs (i + 1)).f0 - (ptAt xs i).f0 + 1 by omega)
      simp only [if_neg e, if_pos (show (0 : Int) ≤ ((i + 1 : Nat) : Int) by omega), if_pos (show ((i + 1 : Nat) : Int) < (xs.length : Int) by omega), e3, e4, e5]
      simp only [if_neg (show ¬ (ptAt xs (i + 1)).f0 - (ptAt xs i).f0 + 1 = 0 by omega)]
      generalize Int.tmod a2 ((ptAt xs (i + 1)).f0 - (ptAt xs i).f0 + 1) = u at m ⊢
      have e6 : wrap64 ((ptAt xs i).f0 + u) = (ptAt xs i).f0 + u := w64 (by omega) (by omega)
      simp only [e6]
      refine Ev.bind (cu _) ?_
      rw [cv_between hg hi2 (show (ptAt xs i).f0 ≤ (ptAt xs i).f0 + u by omega) (by omega)]
      have s := seg_in hn (q := (ptAt xs i).f0 + u) (by omega) (by omega)
      have e7 : wrap64 ((seg (ptAt xs i) (ptAt xs (i + 1)) ((ptAt xs i).f0 + u)).2 - (seg (ptAt xs i) (ptAt xs (i + 1)) ((ptAt xs i).f0 + u)).1) = (seg (ptAt xs i) (ptAt xs (i + 1)) ((ptAt xs i).f0 + u)).2 - (seg (ptAt xs i) (ptAt xs (i + 1)) ((ptAt xs i).f0 + u)).1 := w64 (by omega) (by omega)
      simp only [e7, if_pos s.1, if_pos s.2.2.1, if_pos s.2.2.2]
      exact Ev.bindK awake07 rfl
  · simp only [if_neg c]
    exact Ev.bindK awake07 rfl
end Go.Proofs.Ytbiempkdfnfpgaa.Pure
