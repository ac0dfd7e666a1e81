/- Codes: what is chosen, and that fans are made. -/
import Derived.Test.YtbiempkdfnfpgaaM0
import Derived.Test.YtbiempkdfnfpgaaPAx3
namespace Go.Proofs.Ytbiempkdfnfpgaa.M
open Go.RowKit Go.Proofs.Ytbiempkdfnfpgaa.PA Go.Proofs.YtbiempkdfnfpgaaW.PrintWords Go.Proofs.YtbiempkdfnfpgaaW.PrintLast Go.Proofs.YtbiempkdfnfpgaaW.PrintMore

/-- The state of codes. -/
structure St (l : List Int) (a : Int) : Prop where
  lo : 0 ≤ a
  hi : a ≤ l.length
  le : l.length ≤ 300
  by_ : ∀ i : Nat, 0 ≤ l.getD i 0 ∧ l.getD i 0 ≤ 255

theorem St.rd {l : List Int} {a : Int} (h : St l a) (i : Int) : 0 ≤ rd l i ∧ rd l i ≤ 255 := h.by_ i.toNat

theorem mod_ev (a n : Int) (hn : n ≤ 4611686018427387904) : ∃ r, minecontroldraw_Mod.f a n = some r ∧ 0 ≤ r ∧ (1 ≤ n → r < n ∧ r = a % n) ∧ (n ≤ 0 → r = 0) := by
  unfold minecontroldraw_Mod.f
  by_cases h : n < 1
  · exact ⟨0, by rw [if_pos h], by omega, by omega, fun _ => rfl⟩
  rw [if_neg h, if_neg (by omega)]
  have hm := Int.tmod_eq_emod (a := a) (b := n)
  have h1 := Int.emod_nonneg a (show n ≠ 0 by omega)
  have h2 := Int.emod_lt_of_pos a (show 0 < n by omega)
  have hn' : (n.natAbs : Int) = n := by omega
  have hdv : n ∣ a ↔ a % n = 0 := Int.dvd_iff_emod_eq_zero
  by_cases c : 0 ≤ a ∨ n ∣ a
  · rw [if_pos c] at hm
    have hm : a.tmod n = a % n := by simpa using hm
    rw [hm, if_neg (by omega)]
    exact ⟨_, rfl, h1, fun _ => ⟨h2, rfl⟩, by omega⟩
  · rw [if_neg c, hn'] at hm
    have : a % n ≠ 0 := fun h => c (.inr (hdv.mpr h))
    rw [hm, if_pos (by omega), w64 (by omega) (by omega)]
    exact ⟨_, rfl, by omega, fun _ => ⟨by omega, by omega⟩, by omega⟩

theorem tmod_bd {v n : Int} (hv : 0 ≤ v) (hn : 0 < n) : 0 ≤ Int.tmod v n ∧ Int.tmod v n < n := by
  rw [Int.tmod_eq_emod_of_nonneg hv]; exact ⟨Int.emod_nonneg _ (by omega), Int.emod_lt_of_pos _ hn⟩

theorem next_ev {l : List Int} {a : Int} (h : St l a) (n : Int) : ∃ r a', Ev (fun k => minecontroldraw_Codes_Next.f k l a n) (r, a') ∧ St l a' ∧ 0 ≤ r ∧ (1 ≤ n → r < n) ∧ (n ≤ 0 → r = 0) := by
  have h1 := h.lo; have h2 := h.hi; have h3 := h.le
  unfold minecontroldraw_Codes_Next.f
  by_cases c : n < 1
  · refine ⟨0, a, ?_, h, by omega, by omega, fun _ => rfl⟩
    simp only [c, ↓reduceIte]
    apply Ev.succ; simp only [minecontroldraw_Codes_Next.j0, if_true]; exact Ev.now _
  by_cases c2 : a ≥ (l.length : Int)
  · refine ⟨0, a, ?_, h, by omega, fun _ => by omega, by omega⟩
    simp only [c, c2, ↓reduceIte, decide_true]
    apply Ev.succ; simp only [minecontroldraw_Codes_Next.j0, if_true]; exact Ev.now _
  have e1 : wrap64 (a + 1) = a + 1 := w64 (by omega) (by omega)
  have e2 : wrap64 (a + 1 - 1) = a := by rw [w64 (by omega) (by omega)]; omega
  have r1 := h.rd a; have r2 := h.rd (a + 1)
  have b1 : wrap64 (rd l a) = rd l a := w64 (by omega) (by omega)
  have b2 : wrap64 (rd l (a + 1)) = rd l (a + 1) := w64 (by omega) (by omega)
  have b3 : wrap64 (rd l a * 256) = rd l a * 256 := w64 (by omega) (by omega)
  have b4 : wrap64 (rd l a * 256 + rd l (a + 1)) = rd l a * 256 + rd l (a + 1) := w64 (by omega) (by omega)
  have e3 : wrap64 (a + 1 + 1) = a + 1 + 1 := w64 (by omega) (by omega)
  have one : ∃ r a', Ev (fun _ : Nat => (some (Int.tmod (rd l a) n, a + 1) : Option (Int × Int))) (r, a') ∧ St l a' ∧ 0 ≤ r ∧ (1 ≤ n → r < n) ∧ (n ≤ 0 → r = 0) :=
    ⟨_, _, Ev.now _, ⟨by omega, by omega, h3, h.by_⟩, (tmod_bd r1.1 (by omega)).1, fun _ => (tmod_bd r1.1 (by omega)).2, by omega⟩
  have lift : ∀ {g : Nat → Option (Int × Int)}, (∀ k, minecontroldraw_Codes_Next.j0 (k + 1) n false l a = g k) → (∃ r a', Ev g (r, a') ∧ St l a' ∧ 0 ≤ r ∧ (1 ≤ n → r < n) ∧ (n ≤ 0 → r = 0)) →
      ∃ r a', Ev (fun k => minecontroldraw_Codes_Next.j0 k n false l a) (r, a') ∧ St l a' ∧ 0 ≤ r ∧ (1 ≤ n → r < n) ∧ (n ≤ 0 → r = 0) := by
    rintro g hg ⟨r, a', he, hr⟩; exact ⟨r, a', Ev.step hg he, hr⟩
  simp only [c, c2, ↓reduceIte, decide_false]
  by_cases c3 : n > 256
  · by_cases c4 : a + 1 < (l.length : Int)
    · refine lift (g := fun _ => some (Int.tmod (rd l a * 256 + rd l (a + 1)) n, a + 1 + 1)) (fun k => ?_) ⟨_, _, Ev.now _, ⟨by omega, by omega, h3, h.by_⟩, (tmod_bd (by omega) (by omega)).1, fun _ => (tmod_bd (by omega) (by omega)).2, by omega⟩
      simp only [minecontroldraw_Codes_Next.j0, Bool.false_eq_true, if_false, e1, e2, e3, b1, b2, b3, b4]
      rw [if_pos h1, if_pos (by omega), if_pos c3, if_pos c4, if_pos (by omega), if_neg (by omega)]
    · refine lift (fun k => ?_) one
      simp only [minecontroldraw_Codes_Next.j0, Bool.false_eq_true, if_false, e1, e2, e3, b1]
      rw [if_pos h1, if_pos (by omega), if_pos c3, if_neg c4, if_neg (by omega)]
  · refine lift (fun k => ?_) one
    simp only [minecontroldraw_Codes_Next.j0, Bool.false_eq_true, if_false, e1, e2, e3, b1]
    rw [if_pos h1, if_pos (by omega), if_neg c3, if_neg (by omega)]

theorem range_ev {l : List Int} {a : Int} (h : St l a) {lo hi : Int} (h0 : -1000000 ≤ lo) (h1 : lo ≤ hi) (h2 : hi ≤ 1000000) :
    ∃ r a', Ev (fun k => minecontroldraw_Codes_Range.f k l a lo hi) (r, a') ∧ St l a' ∧ lo ≤ r ∧ r ≤ hi := by
  obtain ⟨r, a', he, hs, r0, r1, _⟩ := next_ev h (hi - lo + 1)
  have r1 := r1 (by omega)
  refine ⟨lo + r, a', ?_, hs, by omega, by omega⟩
  unfold minecontroldraw_Codes_Range.f
  rw [w64 (x := hi - lo) (by omega) (by omega), w64 (x := hi - lo + 1) (by omega) (by omega)]
  refine Ev.bindK he ?_
  rw [w64 (by omega) (by omega)]

theorem one_ev {l : List Int} {a : Int} (h : St l a) (n : Int) : ∃ r a', Ev (fun k => minecontroldraw_Codes_One.f k l a n) (r, a') ∧ St l a' := by
  obtain ⟨r, a', he, hs, _⟩ := next_ev h n
  exact ⟨_, a', Ev.bindK he rfl, hs⟩

/-- The points that are made. -/
structure Pts (l : List S42) : Prop where
  ne : 1 ≤ l.length
  le : l.length ≤ 4
  f0 : ∀ i, i < l.length → -20 ≤ (l.getD i z42).f0 ∧ (l.getD i z42).f0 ≤ 10 + 40 * (i : Int)
  f1 : ∀ i, i < l.length → 0 ≤ (l.getD i z42).f1 ∧ (l.getD i z42).f1 ≤ 3000
  up : ∀ i, i + 1 < l.length → (l.getD i z42).f0 < (l.getD (i + 1) z42).f0 ∧ (l.getD (i + 1) z42).f1 ≤ (l.getD i z42).f1

theorem getD_snoc_lt {α : Type} (l : List α) (x d : α) {i : Nat} (h : i < l.length) : (l ++ [x]).getD i d = l.getD i d := by
  simp [List.getD_eq_getElem?_getD, List.getElem?_append_left h]
theorem getD_snoc_eq {α : Type} (l : List α) (x d : α) : (l ++ [x]).getD l.length d = x := by
  simp [List.getD_eq_getElem?_getD]

theorem curve_l0_ev {l : List Int} : ∀ (d : Nat) (xs : List S42) (a : Int), St l a → (∃ m, xs.length + d ≤ m ∧ m ≤ 4) → 1 ≤ xs.length →
    (∀ i, i < xs.length → -20 ≤ (xs.getD i z42).f0 ∧ (xs.getD i z42).f0 ≤ 10 + 40 * (i : Int)) → (∀ i, i < xs.length → 0 ≤ (xs.getD i z42).f1 ∧ (xs.getD i z42).f1 ≤ 3000) →
    (∀ i, i + 1 < xs.length → (xs.getD i z42).f0 < (xs.getD (i + 1) z42).f0 ∧ (xs.getD (i + 1) z42).f1 ≤ (xs.getD i z42).f1) →
    ∃ ys a', Ev (fun k => minecontroldraw_Codes_Curve.l0 k xs (d : Int) l a) (ys, a') ∧ St l a' ∧ Pts ys := by
  intro d
  induction d with
  | zero =>
    intro xs a hs ⟨m, hm, hm4⟩ h1 q0 q1 q2
    refine ⟨xs, a, ?_, hs, ⟨h1, by omega, q0, q1, q2⟩⟩
    apply Ev.succ; simp only [minecontroldraw_Codes_Curve.l0]; exact Ev.now _
  | succ d ih =>
    intro xs a hs ⟨m, hm, hm4⟩ h1 q0 q1 q2
    obtain ⟨r, a1, he, hs1, r0, r1⟩ := range_ev hs (lo := 1) (hi := 40) (by omega) (by omega) (by omega)
    obtain ⟨p, a2, hp, hs2, p0, p1, _⟩ := next_ev hs1 900
    have p1 := p1 (by omega)
    have e1 : wrap64 ((xs.length : Int) - 1) = ((xs.length - 1 : Nat) : Int) := by rw [w64 (by omega) (by omega)]; omega
    have e2 : rd_T42 xs ((xs.length - 1 : Nat) : Int) = xs.getD (xs.length - 1) z42 := rfl
    have b0 := q0 (xs.length - 1) (by omega); have b1 := q1 (xs.length - 1) (by omega)
    have e3 : wrap64 (((d + 1 : Nat) : Int) - 1) = (d : Int) := by rw [w64 (by omega) (by omega)]; omega
    obtain ⟨ys, a3, hy, hs3, hP⟩ := ih (xs ++ [⟨(xs.getD (xs.length - 1) z42).f0 + r, mx 0 ((xs.getD (xs.length - 1) z42).f1 - p)⟩]) a2 hs2 ⟨m, by simp; omega, hm4⟩ (by simp) (by
        intro i hi
        simp at hi
        by_cases c : i < xs.length
        · rw [getD_snoc_lt _ _ _ c]; exact q0 i c
        · obtain rfl : i = xs.length := by omega
          rw [getD_snoc_eq]; simp only []; omega) (by
        intro i hi
        simp at hi
        by_cases c : i < xs.length
        · rw [getD_snoc_lt _ _ _ c]; exact q1 i c
        · obtain rfl : i = xs.length := by omega
          rw [getD_snoc_eq]; simp only [mx_eq]; omega) (by
        intro i hi
        simp at hi
        by_cases c : i + 1 < xs.length
        · rw [getD_snoc_lt _ _ _ c, getD_snoc_lt _ _ _ (by omega)]; exact q2 i c
        · obtain rfl : i = xs.length - 1 := by omega
          rw [show xs.length - 1 + 1 = xs.length by omega, getD_snoc_eq, getD_snoc_lt _ _ _ (by omega)]; simp only [mx_eq]; omega)
    refine ⟨ys, a3, ?_, hs3, hP⟩
    apply Ev.succ
    simp only [minecontroldraw_Codes_Curve.l0, e1, e2, if_pos (show ((d + 1 : Nat) : Int) > 0 by omega), if_pos (show (0 : Int) ≤ ((xs.length - 1 : Nat) : Int) by omega), if_pos (show ((xs.length - 1 : Nat) : Int) < (xs.length : Int) by omega), e3]
    refine Ev.bind he (Ev.bind hp ?_)
    simp only [if_pos (show xs.length < 8796093022208 by omega)]
    rw [w64 (by omega) (by omega), w64 (by omega) (by omega)]
    exact hy

theorem curve_made {l : List Int} {a : Int} (h : St l a) : ∃ ys a', Ev (fun k => minecontroldraw_Codes_Curve.f k l a) (ys, a') ∧ St l a' ∧ Pts ys := by
  obtain ⟨r, a1, he, hs1, r0, r1⟩ := range_ev h (lo := -20) (hi := 10) (by omega) (by omega) (by omega)
  obtain ⟨p, a2, hp, hs2, p0, p1⟩ := range_ev hs1 (lo := 500) (hi := 3000) (by omega) (by omega) (by omega)
  obtain ⟨n, a3, hn, hs3, n0, n1, _⟩ := next_ev hs2 4
  have n1 := n1 (by omega)
  obtain ⟨d, rfl⟩ := Int.eq_ofNat_of_zero_le n0
  obtain ⟨ys, a4, hy, hs4, hP⟩ := curve_l0_ev d [⟨r, p⟩] a3 hs3 ⟨4, by simp; omega, by omega⟩ (by simp) (by
      intro i hi; obtain rfl : i = 0 := by simpa using hi
      simp; omega) (by
      intro i hi; obtain rfl : i = 0 := by simpa using hi
      simp; omega) (by intro i hi; simp at hi)
  refine ⟨ys, a4, ?_, hs4, hP⟩
  unfold minecontroldraw_Codes_Curve.f
  exact Ev.bind he (Ev.bind hp (Ev.bind hn hy))

theorem new_ev {l0 : List Int} (hb : ∀ x ∈ l0, 0 ≤ x ∧ x ≤ 255) : minecontroldraw_New.f l0 = some (l0.take (min l0.length 300), 0) ∧ St (l0.take (min l0.length 300)) 0 := by
  constructor
  · unfold minecontroldraw_New.f
    rw [mn_eq, if_pos (by omega), if_pos (by omega)]
    congr 3; omega
  · refine ⟨by omega, by omega, by simp; omega, fun i => ?_⟩
    rw [List.getD_eq_getElem?_getD]
    by_cases h : i < (l0.take (min l0.length 300)).length
    · rw [List.getElem?_eq_getElem h]
      exact hb _ (List.mem_of_mem_take (List.getElem_mem h))
    · rw [List.getElem?_eq_none (by omega)]; simp

/-- A fan is made from any codes. -/
theorem made_ev {l0 : List Int} (hb : ∀ x ∈ l0, 0 ≤ x ∧ x ≤ 255) (at_ by_ : Int) : ∃ r b xs, Ev (fun k => minecontrollaw07_made.f k l0 at_ by_) (r, b, false, xs) ∧ 1 ≤ xs.length ∧ xs.length ≤ 8 := by
  obtain ⟨hn, hs⟩ := new_ev hb
  obtain ⟨r, a1, h1, hs1, _⟩ := next_ev hs 3
  obtain ⟨b, a2, h2, hs2⟩ := one_ev hs1 2
  obtain ⟨xs, a3, h3, hs3, hP⟩ := curve_made hs2
  obtain ⟨v, a4, h4, hs4, _⟩ := next_ev hs3 8
  have l1 := hP.ne; have l4 := hP.le
  obtain ⟨m, hm, m0, m1, _⟩ := mod_ev at_ (xs.length : Int) (by omega)
  have m1 := (m1 (by omega)).1
  unfold minecontrollaw07_made.f
  by_cases c1 : v = 1
  · refine ⟨r, b, xs.set m.toNat ⟨by_, (rd_T42 xs m).f1⟩, ?_, by simp; omega, by simp; omega⟩
    refine Ev.bindC hn (Ev.bind h1 (Ev.bind h2 (Ev.bind h3 (Ev.bind h4 ?_))))
    simp only [if_pos c1]
    refine Ev.bindC hm (Ev.const ?_)
    rw [if_pos m0, if_pos m1]
  by_cases c2 : v = 2
  · refine ⟨r, b, xs.set m.toNat ⟨(rd_T42 xs m).f0, by_⟩, ?_, by simp; omega, by simp; omega⟩
    refine Ev.bindC hn (Ev.bind h1 (Ev.bind h2 (Ev.bind h3 (Ev.bind h4 ?_))))
    simp only [if_neg c1, if_pos c2]
    refine Ev.bindC hm (Ev.const ?_)
    rw [if_pos m0, if_pos m1]
  by_cases c3 : v = 3
  · refine ⟨by_, b, xs, ?_, l1, by omega⟩
    refine Ev.bindC hn (Ev.bind h1 (Ev.bind h2 (Ev.bind h3 (Ev.bind h4 ?_))))
    simp only [if_neg c1, if_neg c2, if_pos c3]; exact Ev.now _
  by_cases c4 : v = 4
  · refine ⟨r, b, xs ++ xs, ?_, by simp; omega, by simp; omega⟩
    refine Ev.bindC hn (Ev.bind h1 (Ev.bind h2 (Ev.bind h3 (Ev.bind h4 ?_))))
    simp only [if_neg c1, if_neg c2, if_neg c3, if_pos c4]
    rw [if_pos (by omega)]; exact Ev.now _
  · refine ⟨r, b, xs, ?_, l1, by omega⟩
    refine Ev.bindC hn (Ev.bind h1 (Ev.bind h2 (Ev.bind h3 (Ev.bind h4 ?_))))
    simp only [if_neg c1, if_neg c2, if_neg c3, if_neg c4]; exact Ev.now _
end Go.Proofs.Ytbiempkdfnfpgaa.M
