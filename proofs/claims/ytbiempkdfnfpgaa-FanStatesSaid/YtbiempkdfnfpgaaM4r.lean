/- The reference of fans computes the same. -/
import Derived.Test.YtbiempkdfnfpgaaM4
import Derived.Test.YtbiempkdfnfpgaaPAx13
namespace Go.Proofs.Ytbiempkdfnfpgaa.M
set_option linter.unusedSimpArgs false
open Go.RowKit Go.Proofs.Ytbiempkdfnfpgaa.PA Go.Proofs.YtbiempkdfnfpgaaW.PrintWords Go.Proofs.YtbiempkdfnfpgaaW.PrintLast Go.Proofs.YtbiempkdfnfpgaaW.PrintMore

theorem inner_l0 {r : Int} {l : List S42} (hg : Good r l) (b1 b2 : Bool) (r0 q : Int) (hl : q < (ptAt l (l.length - 1)).f0) : ∀ d i, i + 1 + d = l.length → (ptAt l i).f0 ≤ q →
    Ev (fun k => minecontrolref07_Inner.l0 k q (i : Int) r0 b1 b2 l) (cv (l.drop i) q) := by
  have h8 := hg.le
  intro d
  induction d with
  | zero => intro i h hq; rw [show l.length - 1 = i by omega] at hl; omega
  | succ d ih =>
    intro i h hq
    apply Ev.succ
    have e1 : wrap64 ((i : Int) + 1) = ((i + 1 : Nat) : Int) := by rw [w64 (by omega) (by omega)]; omega
    simp only [minecontrolref07_Inner.l0, e1, if_pos (show ((i + 1 : Nat) : Int) < (l.length : Int) by omega), if_pos (show (0 : Int) ≤ ((i + 1 : Nat) : Int) by omega), rd_ptAt,
      if_pos (show (0 : Int) ≤ (i : Int) by omega), if_pos (show (i : Int) < (l.length : Int) by omega)]
    by_cases c : (ptAt l (i + 1)).f0 ≤ q
    · simp only [c, ↓reduceIte]
      rw [cv_step hg (by omega) c]
      exact ih (i + 1) (by omega) c
    · simp only [c, ↓reduceIte]
      have hn := good_nb hg (show i + 1 < l.length by omega)
      have g1 := hn.a0; have g2 := hn.b0; have g3 := hn.lt; have g4 := hn.b1; have g5 := hn.ge; have g6 := hn.a1
      obtain ⟨p1, p2, p3, p4⟩ := seg_bd hn hq (show q ≤ (ptAt l (i + 1)).f0 by omega)
      have hin := seg_in hn hq (show q ≤ (ptAt l (i + 1)).f0 by omega)
      have em : ((ptAt l (i + 1)).f1 - (ptAt l i).f1) * (q - (ptAt l i).f0) = -(((ptAt l i).f1 - (ptAt l (i + 1)).f1) * (q - (ptAt l i).f0)) := by
        rw [← Int.neg_mul]; congr 1; omega
      rw [w64 (x := (ptAt l (i + 1)).f1 - (ptAt l i).f1) (by omega) (by omega), w64 (x := q - (ptAt l i).f0) (by omega) (by omega), w64 (x := (ptAt l (i + 1)).f0 - (ptAt l i).f0) (by omega) (by omega)]
      rw [em, w64 (by omega) (by omega), floor_eq (by omega) (by omega) (by omega), ceil_eq (by omega) (by omega) (by omega), Int.neg_neg]
      simp only [Option.bind_some]
      have s1 := seg_lo hn q
      have s2 := seg_hi (ptAt l i) (ptAt l (i + 1)) q
      have hc : cv (l.drop i) q = seg (ptAt l i) (ptAt l (i + 1)) q := by
        rw [← cv_skip hg i (by omega) hq]; exact cv_between hg (by omega) hq (by omega)
      rw [hc, w64 (by omega) (by omega), w64 (by omega) (by omega), ← s1, ← Int.sub_eq_add_neg, ← s2]
      exact Ev.now _


theorem ref_inner {r : Int} {l : List S42} (hg : Good r l) (r0 : Int) (b1 b2 : Bool) (q : Int) : Ev (fun k => minecontrolref07_Inner.f k r0 b1 b2 l q) (cv l q) := by
  have h1 := hg.ne; have h8 := hg.le
  have e1 : wrap64 ((l.length : Int) - 1) = ((l.length - 1 : Nat) : Int) := by rw [w64 (by omega) (by omega)]; omega
  have r0_ : rd_T42 l 0 = ptAt l 0 := rfl
  unfold minecontrolref07_Inner.f
  simp only [if_pos (show (0 : Int) < (l.length : Int) by omega), e1, if_pos (show (0 : Int) ≤ ((l.length - 1 : Nat) : Int) by omega), if_pos (show ((l.length - 1 : Nat) : Int) < (l.length : Int) by omega), rd_ptAt, r0_]
  by_cases c : q ≤ (ptAt l 0).f0
  · simp only [c, ↓reduceIte]
    have : cv l q = ((ptAt l 0).f1, (ptAt l 0).f1) := by
      show cv (l.drop 0) q = _
      rw [pt_drop (show 0 < l.length by omega)]
      by_cases h : 1 < l.length
      · rw [pt_drop h]; simp only [cv]; rw [if_pos c]
      · rw [List.drop_of_length_le (by omega)]; rfl
    rw [this]; exact Ev.now _
  · by_cases c2 : q ≥ (ptAt l (l.length - 1)).f0
    · simp only [c, c2, ↓reduceIte]
      rw [cv_last hg c2]; exact Ev.now _
    · simp only [c, c2, ↓reduceIte]
      exact inner_l0 hg b1 b2 r0 q (by omega) (l.length - 1) 0 (by omega) (by omega)


theorem ref_Curve (r : Int) (b1 b2 : Bool) (l : List S42) (q : Int) : Ev (fun k => minecontrolref07_Curve.f k r b1 b2 l q) (if ck r l = 0 then cv l q else (0, 0)) := by
  unfold minecontrolref07_Curve.f
  refine Ev.bind (ref_check r b1 b2 l) ?_
  by_cases h : ck r l = 0
  · simp only [h, ↓reduceIte]
    exact Ev.bindK (ref_inner (good_of_ck h) r b1 b2 q) rfl
  · simp only [h, ↓reduceIte]; exact Ev.now _


theorem ref_along {r : Int} {l : List S42} (hg : Good r l) (r0 : Int) (b1 b2 b : Bool) {q : Int} (hq : small q) : Ev (fun k => minecontrolref07_Along.f k r0 b1 b2 l b q) (al l b q) := by
  obtain ⟨q1, q2⟩ := hq
  unfold minecontrolref07_Along.f al
  cases b
  · simp only [Bool.false_eq_true, ↓reduceIte]
    exact Ev.bindK (ref_inner hg r0 b1 b2 q) rfl
  · simp only [↓reduceIte]
    rw [w64 (x := -q) (by omega) (by omega)]
    refine Ev.bindK (ref_inner hg r0 b1 b2 (-q)) ?_
    have := curve_bd hg (-q)
    rw [w64 (by omega) (by omega), w64 (by omega) (by omega)]


theorem ref_state {r : Int} {l : List S42} (hg : Good r l) (r0 : Int) (b1 b2 : Bool) {s : Int} (hs : -1 ≤ s) (hs2 : s ≤ 2) {q : Int} (hq : small q) : Ev (fun k => minecontrolref07_State.f k r0 b1 b2 l s q) (sure l b1 s q) := by
  unfold minecontrolref07_State.f sure
  by_cases c0 : s = 0
  · subst c0; simp only [show ¬ (0 : Int) = 1 by omega, show ¬ (0 : Int) = 2 by omega, show ¬ (0 : Int) = -1 by omega, ↓reduceIte]; exact Ev.now _
  by_cases c1 : s = 1
  · simp only [c0, c1, ↓reduceIte]; exact Ev.bindK (ref_along hg r0 b1 b2 b1 hq) rfl
  by_cases c2 : s = 2
  · simp only [c0, c1, c2, ↓reduceIte]; exact Ev.bindK (ref_along hg r0 b1 b2 (!b1) hq) rfl
  have c3 : s = -1 := by omega
  simp only [c0, c1, c2, c3, ↓reduceIte]
  refine Ev.bind (ref_along hg r0 b1 b2 false hq) (Ev.bindK (ref_along hg r0 b1 b2 true hq) ?_)
  congr 2
  · simp only [mn_eq]; omega
  · simp only [mx_eq]; omega


theorem ref_At (r : Int) (b1 b2 : Bool) (l : List S42) (s q : Int) : Ev (fun k => minecontrolref07_At.f k r b1 b2 l s q) (atS r b1 l s q) := by
  unfold minecontrolref07_At.f atS
  refine Ev.bind (ref_check r b1 b2 l) ?_
  by_cases h : ck r l = 0
  · simp only [h, ↓reduceIte]
    by_cases c1 : s < -1
    · simp only [c1, ↓reduceIte]; exact Ev.now _
    by_cases c2 : s > 2
    · simp only [c1, c2, ↓reduceIte]; exact Ev.now _
    by_cases c3 : q < -1048577
    · simp only [c1, c2, c3, ↓reduceIte]; exact Ev.now _
    by_cases c4 : q > 1048577
    · simp only [c1, c2, c3, c4, ↓reduceIte]; exact Ev.now _
    · simp only [c1, c2, c3, c4, ↓reduceIte]; exact Ev.bindK (ref_state (good_of_ck h) r b1 b2 (by omega) (by omega) ⟨by omega, by omega⟩) rfl
  · simp only [h, ↓reduceIte]; exact Ev.now _
end Go.Proofs.Ytbiempkdfnfpgaa.M
