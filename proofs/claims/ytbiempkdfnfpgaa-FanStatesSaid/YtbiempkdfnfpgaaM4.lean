/- What a fan gives in each state. -/
import Derived.Test.YtbiempkdfnfpgaaM3
namespace Go.Proofs.Ytbiempkdfnfpgaa.M
set_option linter.unusedSimpArgs false
open Go.RowKit Go.Proofs.Ytbiempkdfnfpgaa.PA Go.Proofs.YtbiempkdfnfpgaaW.PrintWords Go.Proofs.YtbiempkdfnfpgaaW.PrintLast Go.Proofs.YtbiempkdfnfpgaaW.PrintMore

/-- What a right fan gives along the road. -/
def al (l : List S42) (back : Bool) (q : Int) : Int × Int := if back = true then (-(cv l (-q)).2, -(cv l (-q)).1) else cv l q
def sure (l : List S42) (b : Bool) (s q : Int) : Int × Int :=
  if s = 1 then al l b q else if s = 2 then al l (!b) q else if s = -1 then (min 0 (min (al l false q).1 (al l true q).1), max 0 (max (al l false q).2 (al l true q).2)) else (0, 0)
def small (q : Int) : Prop := -9223372036854775807 ≤ q ∧ q ≤ 9223372036854775807

theorem al_bd {r : Int} {l : List S42} (hg : Good r l) (b : Bool) (q : Int) : -2199023255552 ≤ (al l b q).1 ∧ (al l b q).1 ≤ (al l b q).2 ∧ (al l b q).2 ≤ 2199023255552 := by
  have h1 := curve_bd hg q; have h2 := curve_bd hg (-q)
  unfold al; split <;> (try simp only []) <;> omega
theorem al_anti {r : Int} {l : List S42} (hg : Good r l) (b : Bool) {p q : Int} (h : p ≤ q) : (al l b q).1 ≤ (al l b p).1 ∧ (al l b q).2 ≤ (al l b p).2 := by
  have h1 := curve_anti hg h; have h2 := curve_anti hg (p := -q) (q := -p) (by omega)
  unfold al; split <;> (try simp only []) <;> omega
theorem sure_bd {r : Int} {l : List S42} (hg : Good r l) (b : Bool) (s q : Int) : -2199023255552 ≤ (sure l b s q).1 ∧ (sure l b s q).1 ≤ (sure l b s q).2 ∧ (sure l b s q).2 ≤ 2199023255552 := by
  have h1 := al_bd hg b q; have h2 := al_bd hg (!b) q; have h3 := al_bd hg true q; have h4 := al_bd hg false q
  unfold sure; split
  · exact h1
  · split
    · exact h2
    · split
      · simp only []; omega
      · simp only []; omega
theorem sure_anti {r : Int} {l : List S42} (hg : Good r l) (b : Bool) (s : Int) {p q : Int} (h : p ≤ q) : (sure l b s q).1 ≤ (sure l b s p).1 ∧ (sure l b s q).2 ≤ (sure l b s p).2 := by
  have h1 := al_anti hg b h; have h2 := al_anti hg (!b) h; have h3 := al_anti hg true h; have h4 := al_anti hg false h
  unfold sure; split
  · exact h1
  · split
    · exact h2
    · split
      · simp only []; omega
      · simp only []; omega

theorem fan_along_ev {r : Int} {l : List S42} (hg : Good r l) (r0 : Int) (b1 b2 b : Bool) {q : Int} (hq : small q) : Ev (fun k => fan_along.f k r0 b1 b2 l b q) (al l b q) := by
  obtain ⟨q1, q2⟩ := hq
  unfold fan_along.f al
  cases b
  · simp only [Bool.false_eq_true, ↓reduceIte]
    exact Ev.bindK (fan_curve_ev hg r0 b1 b2 q) rfl
  · simp only [↓reduceIte]
    rw [w64 (x := -q) (by omega) (by omega)]
    refine Ev.bindK (fan_curve_ev hg r0 b1 b2 (-q)) ?_
    have := curve_bd hg (-q)
    rw [w64 (by omega) (by omega), w64 (by omega) (by omega)]
theorem fan_sure_ev {r : Int} {l : List S42} (hg : Good r l) (r0 : Int) (b1 b2 : Bool) (s : Int) {q : Int} (hq : small q) : Ev (fun k => fan_Sure.f k r0 b1 b2 l s q) (sure l b1 s q) := by
  unfold fan_Sure.f sure
  by_cases c1 : s = 1
  · simp only [c1, ↓reduceIte]; exact Ev.bindK (fan_along_ev hg r0 b1 b2 b1 hq) rfl
  by_cases c2 : s = 2
  · simp only [c1, c2, ↓reduceIte]; exact Ev.bindK (fan_along_ev hg r0 b1 b2 (!b1) hq) rfl
  by_cases c3 : s = -1
  · simp only [c1, c2, c3, ↓reduceIte]
    refine Ev.bind (fan_along_ev hg r0 b1 b2 false hq) (Ev.bindK (fan_along_ev hg r0 b1 b2 true hq) ?_)
    congr 2
    · simp only [mn_eq]; omega
    · simp only [mx_eq]; omega
  · simp only [c1, c2, c3, ↓reduceIte]; exact Ev.now _
/-- What At answers. -/
def atS (r : Int) (b : Bool) (l : List S42) (s q : Int) : Int × Int :=
  if ck r l = 0 then if s < -1 then (0, 0) else if s > 2 then (0, 0) else if q < -1048577 then (0, 0) else if q > 1048577 then (0, 0) else sure l b s q else (0, 0)
theorem fan_At_ev (r : Int) (b1 b2 : Bool) (l : List S42) (s q : Int) : Ev (fun k => fan_At.f k r b1 b2 l s q) (atS r b1 l s q) := by
  unfold fan_At.f atS
  refine Ev.bind (fan_check r b1 b2 l) ?_
  by_cases h : ck r l = 0
  · simp only [h, ↓reduceIte]
    by_cases c1 : s < -1
    · simp only [c1, ↓reduceIte]; exact Ev.now _
    by_cases c2 : s > 2
    · simp only [c1, c2, ↓reduceIte]; exact Ev.now _
    by_cases c3 : q < -1048577
    · simp only [c1, c2, c3, ↓reduceIte]; exact Ev.now _
    by_cases c4 : q > 1048577
    · simp only [c1, c2, c3, c4, ↓reduceIte]; exact Ev.now _
    · simp only [c1, c2, c3, c4, ↓reduceIte]; exact Ev.bindK (fan_sure_ev (good_of_ck h) r b1 b2 s ⟨by omega, by omega⟩) rfl
  · simp only [h, ↓reduceIte]; exact Ev.now _
end Go.Proofs.Ytbiempkdfnfpgaa.M
