/- The curve of a right fan falls; what a fan gives in each state; the reference computes the same. -/
import Derived.Test.YtbiempkdfnfpgaaM2
import Derived.Test.YtbiempkdfnfpgaaPAx9
namespace Go.Proofs.Ytbiempkdfnfpgaa.M
open Go.RowKit Go.Proofs.Ytbiempkdfnfpgaa.PA Go.Proofs.YtbiempkdfnfpgaaW.PrintWords Go.Proofs.YtbiempkdfnfpgaaW.PrintLast Go.Proofs.YtbiempkdfnfpgaaW.PrintMore

theorem neg_div (n w : Int) (hw : 0 < w) : (-n) / w = -(n / w) - (if n % w > 0 then 1 else 0) := by
  have h1 := Int.mul_ediv_add_emod n w
  have h2 := Int.emod_nonneg n (show w ≠ 0 by omega)
  have h3 := Int.emod_lt_of_pos n hw
  by_cases h : n % w > 0
  · rw [if_pos h]
    have : (-n) = (w - n % w) + w * (-(n / w) - 1) := by rw [Int.mul_sub, Int.mul_neg]; omega
    rw [this, Int.add_mul_ediv_left _ _ (by omega), Int.ediv_eq_zero_of_lt (by omega) (by omega)]; omega
  · rw [if_neg h]
    have : (-n) = w * (-(n / w)) := by rw [Int.mul_neg]; omega
    rw [this, Int.mul_ediv_cancel_left _ (by omega)]; omega

theorem seg_lo {a b : S42} (h : Nb a b) (q : Int) : (seg a b q).1 = a.f1 + (-((a.f1 - b.f1) * (q - a.f0))) / (b.f0 - a.f0) := by
  rw [neg_div _ _ (by have := h.lt; omega)]; unfold seg; simp only []; omega
theorem seg_hi (a b : S42) (q : Int) : (seg a b q).2 = a.f1 - ((a.f1 - b.f1) * (q - a.f0)) / (b.f0 - a.f0) := rfl
theorem seg_start {a b : S42} (_ : Nb a b) : seg a b a.f0 = (a.f1, a.f1) := by
  unfold seg; simp [Int.sub_self]
theorem seg_end {a b : S42} (h : Nb a b) : seg a b b.f0 = (b.f1, b.f1) := by
  unfold seg
  rw [Int.mul_ediv_cancel _ (by have := h.lt; omega), Int.mul_emod_left]; simp; omega
theorem seg_anti {a b : S42} (h : Nb a b) {p q : Int} (hpq : p ≤ q) : (seg a b q).1 ≤ (seg a b p).1 ∧ (seg a b q).2 ≤ (seg a b p).2 := by
  have e3 := h.lt; have e5 := h.ge
  have hm : (a.f1 - b.f1) * (p - a.f0) ≤ (a.f1 - b.f1) * (q - a.f0) := Int.mul_le_mul_of_nonneg_left (by omega) (by omega)
  have d1 := Int.ediv_le_ediv (show 0 < b.f0 - a.f0 by omega) hm
  have d2 := Int.ediv_le_ediv (show 0 < b.f0 - a.f0 by omega) (Int.neg_le_neg hm)
  rw [seg_lo h, seg_lo h, seg_hi, seg_hi]; omega
theorem seg_in {a b : S42} (h : Nb a b) {q : Int} (h1 : a.f0 ≤ q) (h2 : q ≤ b.f0) : b.f1 ≤ (seg a b q).1 ∧ (seg a b q).1 ≤ (seg a b q).2 ∧ (seg a b q).2 ≤ a.f1 ∧ (seg a b q).2 - (seg a b q).1 ≤ 1 := by
  have s1 := seg_anti h h1; have s2 := seg_anti h h2
  rw [seg_start h] at s1; rw [seg_end h] at s2
  have : (seg a b q).1 ≤ (seg a b q).2 ∧ (seg a b q).2 - (seg a b q).1 ≤ 1 := by unfold seg; simp only []; split <;> omega
  simp only [] at s1 s2; omega

/-- Points in order. -/
def Ch : List S42 → Prop
  | a :: b :: t => Nb a b ∧ Ch (b :: t)
  | _ => True
theorem good_ch {r : Int} {l : List S42} (h : Good r l) : ∀ d i, i + d = l.length → Ch (l.drop i) := by
  intro d
  induction d with
  | zero => intro i hi; rw [List.drop_of_length_le (by omega)]; trivial
  | succ d ih =>
    intro i hi
    rw [pt_drop (by omega)]
    by_cases h1 : i + 1 < l.length
    · have := ih (i + 1) (by omega)
      rw [pt_drop h1] at this ⊢
      exact ⟨good_nb h h1, this⟩
    · rw [List.drop_of_length_le (by omega)]; trivial
theorem cv_bd : ∀ (l : List S42) (a : S42), Ch (a :: l) → 0 ≤ a.f1 → ∀ q, 0 ≤ (cv (a :: l) q).1 ∧ (cv (a :: l) q).1 ≤ (cv (a :: l) q).2 ∧ (cv (a :: l) q).2 ≤ a.f1 := by
  intro l
  induction l with
  | nil => intro a _ h q; simp only [cv]; omega
  | cons b t ih =>
    intro a h h0 q
    obtain ⟨hn, hc⟩ := h
    have i := ih b hc hn.b1 q
    have g := hn.ge
    simp only [cv]
    split
    · simp only []; omega
    · split
      · have := seg_in hn (q := q) (by omega) (by assumption); have := hn.b1; omega
      · omega
theorem cv_anti : ∀ (l : List S42) (a : S42), Ch (a :: l) → 0 ≤ a.f1 → ∀ p q, p ≤ q → (cv (a :: l) q).1 ≤ (cv (a :: l) p).1 ∧ (cv (a :: l) q).2 ≤ (cv (a :: l) p).2 := by
  intro l
  induction l with
  | nil => intro a _ h p q _; simp only [cv]; omega
  | cons b t ih =>
    intro a h h0 p q hpq
    have bd := cv_bd (b :: t) a h h0 q
    obtain ⟨hn, hc⟩ := h
    have i := ih b hc hn.b1 p q hpq
    have bd2 := cv_bd t b hc hn.b1 q
    by_cases c1 : p ≤ a.f0
    · have : cv (a :: b :: t) p = (a.f1, a.f1) := by simp only [cv]; rw [if_pos c1]
      rw [this]; simp only []; omega
    · by_cases c2 : p ≤ b.f0
      · have ep : cv (a :: b :: t) p = seg a b p := by simp only [cv]; rw [if_neg c1, if_pos c2]
        rw [ep]
        by_cases c3 : q ≤ b.f0
        · have eq : cv (a :: b :: t) q = seg a b q := by simp only [cv]; rw [if_neg (by omega), if_pos c3]
          rw [eq]; exact seg_anti hn hpq
        · have eq : cv (a :: b :: t) q = cv (b :: t) q := by simp only [cv]; rw [if_neg (by omega), if_neg c3]
          rw [eq]; have := seg_in hn (q := p) (by omega) c2; omega
      · have ep : cv (a :: b :: t) p = cv (b :: t) p := by simp only [cv]; rw [if_neg c1, if_neg c2]
        have eq : cv (a :: b :: t) q = cv (b :: t) q := by simp only [cv]; rw [if_neg (by omega), if_neg (by omega)]
        rw [ep, eq]; exact i
theorem good_cons {r : Int} {l : List S42} (h : Good r l) : ∃ t, l = ptAt l 0 :: t ∧ Ch (ptAt l 0 :: t) ∧ 0 ≤ (ptAt l 0).f1 ∧ (ptAt l 0).f1 ≤ 2199023255552 := by
  have h1 := h.ne
  have e := pt_drop (l := l) (i := 0) (by omega)
  have hc := good_ch h l.length 0 (by omega)
  rw [e] at hc
  have := good_pt h (i := 0) (by omega)
  exact ⟨_, e, hc, by omega, by omega⟩
theorem curve_bd {r : Int} {l : List S42} (h : Good r l) (q : Int) : 0 ≤ (cv l q).1 ∧ (cv l q).1 ≤ (cv l q).2 ∧ (cv l q).2 ≤ 2199023255552 := by
  obtain ⟨t, e, hc, h0, h1⟩ := good_cons h
  generalize ptAt l 0 = a at *
  subst e
  have := cv_bd t a hc h0 q; omega
theorem curve_anti {r : Int} {l : List S42} (h : Good r l) {p q : Int} (hpq : p ≤ q) : (cv l q).1 ≤ (cv l p).1 ∧ (cv l q).2 ≤ (cv l p).2 := by
  obtain ⟨t, e, hc, h0, h1⟩ := good_cons h
  generalize ptAt l 0 = a at *
  subst e
  exact cv_anti t a hc h0 p q hpq

theorem cv_step {r : Int} {l : List S42} (h : Good r l) {i : Nat} (hi : i + 1 < l.length) {q : Int} (hq : (ptAt l (i + 1)).f0 ≤ q) : cv (l.drop i) q = cv (l.drop (i + 1)) q := by
  have hn := good_nb h hi
  have := hn.lt
  rw [pt_drop (show i < l.length by omega), pt_drop hi]
  by_cases c : q ≤ (ptAt l (i + 1)).f0
  · have e : q = (ptAt l (i + 1)).f0 := by omega
    have e2 : cv (ptAt l (i + 1) :: l.drop (i + 1 + 1)) q = ((ptAt l (i + 1)).f1, (ptAt l (i + 1)).f1) := by
      cases hd : l.drop (i + 1 + 1) with
      | nil => rfl
      | cons => simp only [cv]; rw [if_pos c]
    rw [e2]
    simp only [cv]; rw [if_neg (by omega), if_pos c, e, seg_end hn]
  · rw [show cv (ptAt l i :: ptAt l (i + 1) :: l.drop (i + 1 + 1)) q = cv (ptAt l (i + 1) :: l.drop (i + 1 + 1)) q from by conv => lhs; simp only [cv]; rw [if_neg (by omega), if_neg c]]
theorem cv_skip {r : Int} {l : List S42} (h : Good r l) {q : Int} : ∀ i, i < l.length → (ptAt l i).f0 ≤ q → cv l q = cv (l.drop i) q := by
  intro i
  induction i with
  | zero => intro _ _; rfl
  | succ i ih =>
    intro hi hq
    have := (good_nb h hi).lt
    rw [ih (by omega) (by omega), cv_step h hi hq]
theorem cv_at {r : Int} {l : List S42} (h : Good r l) {i : Nat} (hi : i < l.length) : cv l (ptAt l i).f0 = ((ptAt l i).f1, (ptAt l i).f1) := by
  rw [cv_skip h i hi (Int.le_refl _), pt_drop hi]
  cases hd : l.drop (i + 1) with
  | nil => rfl
  | cons => simp only [cv]; rw [if_pos (Int.le_refl _)]
theorem cv_between {r : Int} {l : List S42} (h : Good r l) {i : Nat} (hi : i + 1 < l.length) {q : Int} (h1 : (ptAt l i).f0 ≤ q) (h2 : q ≤ (ptAt l (i + 1)).f0) :
    cv l q = seg (ptAt l i) (ptAt l (i + 1)) q := by
  have hn := good_nb h hi
  rw [cv_skip h i (by omega) h1, pt_drop (show i < l.length by omega), pt_drop hi]
  simp only [cv]
  by_cases c : q ≤ (ptAt l i).f0
  · rw [if_pos c, show q = (ptAt l i).f0 by omega, seg_start hn]
  · rw [if_neg c, if_pos h2]
theorem cv_last {r : Int} {l : List S42} (h : Good r l) {q : Int} (hq : (ptAt l (l.length - 1)).f0 ≤ q) : cv l q = ((ptAt l (l.length - 1)).f1, (ptAt l (l.length - 1)).f1) := by
  have := h.ne
  rw [cv_skip h (l.length - 1) (by omega) hq, pt_drop (by omega), List.drop_of_length_le (by omega)]; rfl

-- the reference
theorem floor_eq {a b : Int} (hb : 0 < b) (h0 : -4611686018427387904 ≤ a) (h1 : a ≤ 4611686018427387904) : minecontrolref05_Floor.f a b = some (a / b) := by
  have k1 := Int.ediv_le_ediv hb h0
  have k2 := Int.ediv_le_ediv hb h1
  have bd1 : -4611686018427387904 ≤ -4611686018427387904 / b := by
    have := Int.le_ediv_of_mul_le (a := -4611686018427387904) (b := -4611686018427387904) hb (by
      have : (-4611686018427387904 : Int) * b ≤ -4611686018427387904 * 1 := Int.mul_le_mul_of_nonpos_left (by omega) (by omega)
      omega)
    exact this
  have bd2 : (4611686018427387904 : Int) / b ≤ 4611686018427387904 := Int.ediv_le_self _ (by omega)
  have hd := Int.tdiv_eq_ediv (a := a) (b := b)
  have hm := Int.tmod_eq_emod (a := a) (b := b)
  have e2 := Int.emod_nonneg a (show b ≠ 0 by omega)
  have e3 := Int.emod_lt_of_pos a hb
  have hdv : b ∣ a ↔ a % b = 0 := Int.dvd_iff_emod_eq_zero
  have hs : b.sign = 1 := Int.sign_eq_one_of_pos hb
  have hn : (b.natAbs : Int) = b := by omega
  unfold minecontrolref05_Floor.f
  rw [if_neg (by omega), hd, hm, hs]
  by_cases c : 0 ≤ a ∨ b ∣ a
  · rw [if_pos c, if_pos c, if_neg (by omega), w64 (by omega) (by omega), Int.add_zero]
  · rw [if_neg c, if_neg c, hn]
    have : a % b ≠ 0 := fun h => c (.inr (hdv.mpr h))
    rw [if_pos (by omega), w64 (x := a / b + 1) (by omega) (by omega), w64 (by omega) (by omega)]
    exact congrArg some (by omega)
theorem ceil_eq {a b : Int} (hb : 0 < b) (h0 : -4611686018427387904 ≤ a) (h1 : a ≤ 4611686018427387904) : minecontrolref05_Ceil.f a b = some (-((-a) / b)) := by
  unfold minecontrolref05_Ceil.f
  rw [w64 (by omega) (by omega), floor_eq hb (by omega) (by omega)]
  simp only [Option.bind_some]
  have k1 := Int.ediv_le_ediv hb (show -4611686018427387904 ≤ -a by omega)
  have k2 := Int.ediv_le_ediv hb (show -a ≤ 4611686018427387904 by omega)
  have bd1 : -4611686018427387904 ≤ -4611686018427387904 / b := by
    have := Int.le_ediv_of_mul_le (a := -4611686018427387904) (b := -4611686018427387904) hb (by
      have : (-4611686018427387904 : Int) * b ≤ -4611686018427387904 * 1 := Int.mul_le_mul_of_nonpos_left (by omega) (by omega)
      omega)
    exact this
  have bd2 : (4611686018427387904 : Int) / b ≤ 4611686018427387904 := Int.ediv_le_self _ (by omega)
  rw [w64 (by omega) (by omega)]
end Go.Proofs.Ytbiempkdfnfpgaa.M
