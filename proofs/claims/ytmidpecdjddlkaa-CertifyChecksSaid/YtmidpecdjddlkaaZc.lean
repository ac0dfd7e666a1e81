/- Lemmas for the proofs of this seat's statements, part 3; each holds without conditions beyond its own premises. -/
import Derived.Test.YtmidpecdjddlkaaZb
import Derived.Test.YtmidpecdjddlkaaProg
/- Fans, told plainly: their errors, their curves, what they give. -/
namespace Go.Vi.A
set_option linter.unusedVariables false
set_option linter.unusedSimpArgs false
def ptAt (l : List Sp) (i : Nat) : Sp := l.getD i (0, 0)
/-- The line from one point to the next one. -/
def seg (a b : Sp) (q : Int) : Int × Int :=
  (a.2 - (a.2 - b.2) * (q - a.1) / (b.1 - a.1) - (if (a.2 - b.2) * (q - a.1) % (b.1 - a.1) > 0 then 1 else 0), a.2 - (a.2 - b.2) * (q - a.1) / (b.1 - a.1))
def cv : List Sp → Int → Int × Int
  | [], _ => (0, 0)
  | [a], _ => (a.2, a.2)
  | a :: b :: t, q => if q ≤ a.1 then (a.2, a.2) else if q ≤ b.1 then seg a b q else cv (b :: t) q

/-- Two points that follow one another. -/
structure Nb (a b : Sp) : Prop where
  a0 : -1048576 ≤ a.1
  b0 : b.1 ≤ 1048576
  lt : a.1 < b.1
  b1 : 0 ≤ b.2
  ge : b.2 ≤ a.2
  a1 : a.2 ≤ 2199023255552

def badR (x : Sp) : Prop := x.1 < -1048576 ∨ x.1 > 1048576 ∨ x.2 < 0 ∨ x.2 > 2199023255552
instance (x : Sp) : Decidable (badR x) := by unfold badR; infer_instance
def badO (l : List Sp) (i : Nat) (x : Sp) : Prop := 0 < i ∧ (x.1 ≤ (ptAt l (i - 1)).1 ∨ x.2 > (ptAt l (i - 1)).2)
instance (l : List Sp) (i : Nat) (x : Sp) : Decidable (badO l i x) := by unfold badO; infer_instance
def ptE (l : List Sp) (i : Nat) (x : Sp) : Int :=
  if x.1 < -1048576 then 1 else if x.1 > 1048576 then 1 else if x.2 < 0 then 1 else if x.2 > 2199023255552 then 1 else
  if (i : Int) > 0 then if x.1 ≤ (ptAt l (i - 1)).1 then 14 else if x.2 > (ptAt l (i - 1)).2 then 14 else 0 else 0
theorem ptE_zero {l : List Sp} {i : Nat} {x : Sp} : ptE l i x = 0 ↔ ¬ badR x ∧ ¬ badO l i x := by
  unfold ptE badR badO
  repeat' split
  all_goals first | (simp only [Int.reduceEq, false_iff]; omega) | (simp only [true_iff]; omega)
/-- A fan's error. -/
def fanE (r : Int) (l : List Sp) : Int := if r < 0 then 4 else if (l.length : Int) < 1 then 2 else if (l.length : Int) > 8 then 2 else ferr (ptE l) 0 l
/-- A right fan. -/
structure GoodF (r : Int) (l : List Sp) : Prop where
  road : 0 ≤ r
  ne : 1 ≤ l.length
  le : l.length ≤ 8
  rng : ∀ i, i < l.length → ¬ badR (ptAt l i)
  ord : ∀ i, i < l.length → ¬ badO l i (ptAt l i)
theorem ptAt_eq {l : List Sp} {i : Nat} {x : Sp} (h : l[i]? = some x) : ptAt l i = x := by simp [ptAt, List.getD_eq_getElem?_getD, h]
theorem ptAt_get {l : List Sp} {i : Nat} (h : i < l.length) : l[i]? = some (ptAt l i) := by simp [ptAt, List.getD_eq_getElem?_getD, h]
theorem good_iff {r : Int} {l : List Sp} : fanE r l = 0 ↔ GoodF r l := by
  unfold fanE
  constructor
  · intro h
    split at h
    · cases h
    · split at h
      · cases h
      · split at h
        · cases h
        · rw [ferr_zero] at h
          have : ∀ i, i < l.length → ¬ badR (ptAt l i) ∧ ¬ badO l i (ptAt l i) := fun i hi => by
            have := h i _ (ptAt_get hi)
            rw [Nat.zero_add] at this
            exact ptE_zero.1 this
          exact ⟨by omega, by omega, by omega, fun i hi => (this i hi).1, fun i hi => (this i hi).2⟩
  · intro h
    rw [if_neg (by have := h.road; omega), if_neg (by have := h.ne; omega), if_neg (by have := h.le; omega), ferr_zero]
    intro j x hx
    have hj := idx hx
    rw [Nat.zero_add, ← ptAt_eq hx]
    exact ptE_zero.2 ⟨h.rng j hj, h.ord j hj⟩
theorem good_pt {r : Int} {l : List Sp} (h : GoodF r l) {i : Nat} (hi : i < l.length) : -1048576 ≤ (ptAt l i).1 ∧ (ptAt l i).1 ≤ 1048576 ∧ 0 ≤ (ptAt l i).2 ∧ (ptAt l i).2 ≤ 2199023255552 := by
  have := h.rng i hi; unfold badR at this; omega
theorem good_nb {r : Int} {l : List Sp} (h : GoodF r l) {i : Nat} (hi : i + 1 < l.length) : Nb (ptAt l i) (ptAt l (i + 1)) := by
  have h1 := good_pt h (show i < l.length by omega)
  have h2 := good_pt h hi
  have h3 := h.ord (i + 1) hi
  unfold badO at h3
  simp only [Nat.add_sub_cancel] at h3
  exact ⟨by omega, by omega, by omega, by omega, by omega, by omega⟩

theorem mul_le {a b c d : Int} (h0 : 0 ≤ a) (h1 : a ≤ c) (h2 : 0 ≤ b) (h3 : b ≤ d) : 0 ≤ a * b ∧ a * b ≤ c * d :=
  ⟨Int.mul_nonneg h0 h2, Int.le_trans (Int.mul_le_mul_of_nonneg_right h1 h2) (Int.mul_le_mul_of_nonneg_left h3 (by omega))⟩

theorem seg_bd {a b : Sp} (h : Nb a b) {q : Int} (h1 : a.1 ≤ q) (h2 : q ≤ b.1) :
    0 ≤ (a.2 - b.2) * (q - a.1) ∧ (a.2 - b.2) * (q - a.1) ≤ 2199023255552 * 2097152 ∧ 0 ≤ (a.2 - b.2) * (q - a.1) / (b.1 - a.1) ∧ (a.2 - b.2) * (q - a.1) / (b.1 - a.1) ≤ a.2 - b.2 := by
  have e1 := h.a0; have e2 := h.b0; have e3 := h.lt; have e4 := h.b1; have e5 := h.ge; have e6 := h.a1
  have hp := mul_le (a := a.2 - b.2) (b := q - a.1) (c := 2199023255552) (d := 2097152) (by omega) (by omega) (by omega) (by omega)
  refine ⟨hp.1, hp.2, Int.ediv_nonneg hp.1 (by omega), ?_⟩
  have hm : (a.2 - b.2) * (q - a.1) ≤ (a.2 - b.2) * (b.1 - a.1) := Int.mul_le_mul_of_nonneg_left (by omega) (by omega)
  have := Int.ediv_le_ediv (show 0 < b.1 - a.1 by omega) hm
  rwa [Int.mul_ediv_cancel _ (by omega)] at this

theorem pt_drop {l : List Sp} {i : Nat} (h : i < l.length) : l.drop i = ptAt l i :: l.drop (i + 1) := by
  rw [List.drop_eq_getElem_cons h]; simp [ptAt, List.getD_eq_getElem?_getD, h]

theorem neg_div (n w : Int) (hw : 0 < w) : (-n) / w = -(n / w) - (if n % w > 0 then 1 else 0) := by
  have h1 := Int.mul_ediv_add_emod n w
  have h2 := Int.emod_nonneg n (show w ≠ 0 by omega)
  have h3 := Int.emod_lt_of_pos n hw
  by_cases h : n % w > 0
  · rw [if_pos h]
    have : (-n) = (w - n % w) + w * (-(n / w) - 1) := by rw [Int.mul_sub, Int.mul_neg]; omega
    rw [this, Int.add_mul_ediv_left _ _ (by omega), Int.ediv_eq_zero_of_lt (by omega) (by omega)]; omega
  · rw [if_neg h]
    have : (-n) = w * (-(n / w)) := by rw [Int.mul_neg]; omega
    rw [this, Int.mul_ediv_cancel_left _ (by omega)]; omega

theorem seg_lo {a b : Sp} (h : Nb a b) (q : Int) : (seg a b q).1 = a.2 + (-((a.2 - b.2) * (q - a.1))) / (b.1 - a.1) := by
  rw [neg_div _ _ (by have := h.lt; omega)]; unfold seg; simp only []; omega
theorem seg_hi (a b : Sp) (q : Int) : (seg a b q).2 = a.2 - ((a.2 - b.2) * (q - a.1)) / (b.1 - a.1) := rfl
theorem seg_start {a b : Sp} (_ : Nb a b) : seg a b a.1 = (a.2, a.2) := by
  unfold seg; simp [Int.sub_self]
theorem seg_end {a b : Sp} (h : Nb a b) : seg a b b.1 = (b.2, b.2) := by
  unfold seg
  rw [Int.mul_ediv_cancel _ (by have := h.lt; omega), Int.mul_emod_left]; simp; omega
theorem seg_anti {a b : Sp} (h : Nb a b) {p q : Int} (hpq : p ≤ q) : (seg a b q).1 ≤ (seg a b p).1 ∧ (seg a b q).2 ≤ (seg a b p).2 := by
  have e3 := h.lt; have e5 := h.ge
  have hm : (a.2 - b.2) * (p - a.1) ≤ (a.2 - b.2) * (q - a.1) := Int.mul_le_mul_of_nonneg_left (by omega) (by omega)
  have d1 := Int.ediv_le_ediv (show 0 < b.1 - a.1 by omega) hm
  have d2 := Int.ediv_le_ediv (show 0 < b.1 - a.1 by omega) (Int.neg_le_neg hm)
  rw [seg_lo h, seg_lo h, seg_hi, seg_hi]; omega
theorem seg_in {a b : Sp} (h : Nb a b) {q : Int} (h1 : a.1 ≤ q) (h2 : q ≤ b.1) : b.2 ≤ (seg a b q).1 ∧ (seg a b q).1 ≤ (seg a b q).2 ∧ (seg a b q).2 ≤ a.2 ∧ (seg a b q).2 - (seg a b q).1 ≤ 1 := by
  have s1 := seg_anti h h1; have s2 := seg_anti h h2
  rw [seg_start h] at s1; rw [seg_end h] at s2
  have : (seg a b q).1 ≤ (seg a b q).2 ∧ (seg a b q).2 - (seg a b q).1 ≤ 1 := by unfold seg; simp only []; split <;> omega
  simp only [] at s1 s2; omega

/-- Points in order. -/
def Ch : List Sp → Prop
  | a :: b :: t => Nb a b ∧ Ch (b :: t)
  | _ => True
theorem good_ch {r : Int} {l : List Sp} (h : GoodF r l) : ∀ d i, i + d = l.length → Ch (l.drop i) := by
  intro d
  induction d with
  | zero => intro i hi; rw [List.drop_of_length_le (by omega)]; trivial
  | succ d ih =>
    intro i hi
    rw [pt_drop (by omega)]
    by_cases h1 : i + 1 < l.length
    · have := ih (i + 1) (by omega)
      rw [pt_drop h1] at this ⊢
      exact ⟨good_nb h h1, this⟩
    · rw [List.drop_of_length_le (by omega)]; trivial
theorem cv_bd : ∀ (l : List Sp) (a : Sp), Ch (a :: l) → 0 ≤ a.2 → ∀ q, 0 ≤ (cv (a :: l) q).1 ∧ (cv (a :: l) q).1 ≤ (cv (a :: l) q).2 ∧ (cv (a :: l) q).2 ≤ a.2 := by
  intro l
  induction l with
  | nil => intro a _ h q; simp only [cv]; omega
  | cons b t ih =>
    intro a h h0 q
    obtain ⟨hn, hc⟩ := h
    have i := ih b hc hn.b1 q
    have g := hn.ge
    simp only [cv]
    split
    · simp only []; omega
    · split
      · have := seg_in hn (q := q) (by omega) (by assumption); have := hn.b1; omega
      · omega
theorem cv_anti : ∀ (l : List Sp) (a : Sp), Ch (a :: l) → 0 ≤ a.2 → ∀ p q, p ≤ q → (cv (a :: l) q).1 ≤ (cv (a :: l) p).1 ∧ (cv (a :: l) q).2 ≤ (cv (a :: l) p).2 := by
  intro l
  induction l with
  | nil => intro a _ h p q _; simp only [cv]; omega
  | cons b t ih =>
    intro a h h0 p q hpq
    have bd := cv_bd (b :: t) a h h0 q
    obtain ⟨hn, hc⟩ := h
    have i := ih b hc hn.b1 p q hpq
    have bd2 := cv_bd t b hc hn.b1 q
    by_cases c1 : p ≤ a.1
    · have : cv (a :: b :: t) p = (a.2, a.2) := by simp only [cv]; rw [if_pos c1]
      rw [this]; simp only []; omega
    · by_cases c2 : p ≤ b.1
      · have ep : cv (a :: b :: t) p = seg a b p := by simp only [cv]; rw [if_neg c1, if_pos c2]
        rw [ep]
        by_cases c3 : q ≤ b.1
        · have eq : cv (a :: b :: t) q = seg a b q := by simp only [cv]; rw [if_neg (by omega), if_pos c3]
          rw [eq]; exact seg_anti hn hpq
        · have eq : cv (a :: b :: t) q = cv (b :: t) q := by simp only [cv]; rw [if_neg (by omega), if_neg c3]
          rw [eq]; have := seg_in hn (q := p) (by omega) c2; omega
      · have ep : cv (a :: b :: t) p = cv (b :: t) p := by simp only [cv]; rw [if_neg c1, if_neg c2]
        have eq : cv (a :: b :: t) q = cv (b :: t) q := by simp only [cv]; rw [if_neg (by omega), if_neg (by omega)]
        rw [ep, eq]; exact i
theorem good_cons {r : Int} {l : List Sp} (h : GoodF r l) : ∃ t, l = ptAt l 0 :: t ∧ Ch (ptAt l 0 :: t) ∧ 0 ≤ (ptAt l 0).2 ∧ (ptAt l 0).2 ≤ 2199023255552 := by
  have h1 := h.ne
  have e := pt_drop (l := l) (i := 0) (by omega)
  have hc := good_ch h l.length 0 (by omega)
  rw [e] at hc
  have := good_pt h (i := 0) (by omega)
  exact ⟨_, e, hc, by omega, by omega⟩
theorem curve_bd {r : Int} {l : List Sp} (h : GoodF r l) (q : Int) : 0 ≤ (cv l q).1 ∧ (cv l q).1 ≤ (cv l q).2 ∧ (cv l q).2 ≤ 2199023255552 := by
  obtain ⟨t, e, hc, h0, h1⟩ := good_cons h
  generalize ptAt l 0 = a at *
  subst e
  have := cv_bd t a hc h0 q; omega
theorem curve_anti {r : Int} {l : List Sp} (h : GoodF r l) {p q : Int} (hpq : p ≤ q) : (cv l q).1 ≤ (cv l p).1 ∧ (cv l q).2 ≤ (cv l p).2 := by
  obtain ⟨t, e, hc, h0, h1⟩ := good_cons h
  generalize ptAt l 0 = a at *
  subst e
  exact cv_anti t a hc h0 p q hpq

theorem cv_step {r : Int} {l : List Sp} (h : GoodF r l) {i : Nat} (hi : i + 1 < l.length) {q : Int} (hq : (ptAt l (i + 1)).1 ≤ q) : cv (l.drop i) q = cv (l.drop (i + 1)) q := by
  have hn := good_nb h hi
  have := hn.lt
  rw [pt_drop (show i < l.length by omega), pt_drop hi]
  by_cases c : q ≤ (ptAt l (i + 1)).1
  · have e : q = (ptAt l (i + 1)).1 := by omega
    have e2 : cv (ptAt l (i + 1) :: l.drop (i + 1 + 1)) q = ((ptAt l (i + 1)).2, (ptAt l (i + 1)).2) := by
      cases hd : l.drop (i + 1 + 1) with
      | nil => rfl
      | cons => simp only [cv]; rw [if_pos c]
    rw [e2]
    simp only [cv]; rw [if_neg (by omega), if_pos c, e, seg_end hn]
  · rw [show cv (ptAt l i :: ptAt l (i + 1) :: l.drop (i + 1 + 1)) q = cv (ptAt l (i + 1) :: l.drop (i + 1 + 1)) q from by conv => lhs; simp only [cv]; rw [if_neg (by omega), if_neg c]]
theorem cv_skip {r : Int} {l : List Sp} (h : GoodF r l) {q : Int} : ∀ i, i < l.length → (ptAt l i).1 ≤ q → cv l q = cv (l.drop i) q := by
  intro i
  induction i with
  | zero => intro _ _; rfl
  | succ i ih =>
    intro hi hq
    have := (good_nb h hi).lt
    rw [ih (by omega) (by omega), cv_step h hi hq]
theorem cv_at {r : Int} {l : List Sp} (h : GoodF r l) {i : Nat} (hi : i < l.length) : cv l (ptAt l i).1 = ((ptAt l i).2, (ptAt l i).2) := by
  rw [cv_skip h i hi (Int.le_refl _), pt_drop hi]
  cases hd : l.drop (i + 1) with
  | nil => rfl
  | cons => simp only [cv]; rw [if_pos (Int.le_refl _)]
theorem cv_between {r : Int} {l : List Sp} (h : GoodF r l) {i : Nat} (hi : i + 1 < l.length) {q : Int} (h1 : (ptAt l i).1 ≤ q) (h2 : q ≤ (ptAt l (i + 1)).1) :
    cv l q = seg (ptAt l i) (ptAt l (i + 1)) q := by
  have hn := good_nb h hi
  rw [cv_skip h i (by omega) h1, pt_drop (show i < l.length by omega), pt_drop hi]
  simp only [cv]
  by_cases c : q ≤ (ptAt l i).1
  · rw [if_pos c, show q = (ptAt l i).1 by omega, seg_start hn]
  · rw [if_neg c, if_pos h2]
theorem cv_last {r : Int} {l : List Sp} (h : GoodF r l) {q : Int} (hq : (ptAt l (l.length - 1)).1 ≤ q) : cv l q = ((ptAt l (l.length - 1)).2, (ptAt l (l.length - 1)).2) := by
  have := h.ne
  rw [cv_skip h (l.length - 1) (by omega) hq, pt_drop (by omega), List.drop_of_length_le (by omega)]; rfl

/-- What a right fan gives along the road. -/
def al (l : List Sp) (back : Bool) (q : Int) : Int × Int := if back = true then (-(cv l (-q)).2, -(cv l (-q)).1) else cv l q
def sure (l : List Sp) (b : Bool) (s q : Int) : Int × Int :=
  if s = 1 then al l b q else if s = 2 then al l (!b) q else if s = -1 then (min 0 (min (al l false q).1 (al l true q).1), max 0 (max (al l false q).2 (al l true q).2)) else (0, 0)
theorem al_bd {r : Int} {l : List Sp} (hg : GoodF r l) (b : Bool) (q : Int) : -2199023255552 ≤ (al l b q).1 ∧ (al l b q).1 ≤ (al l b q).2 ∧ (al l b q).2 ≤ 2199023255552 := by
  have h1 := curve_bd hg q; have h2 := curve_bd hg (-q)
  unfold al; split <;> (try simp only []) <;> omega
theorem al_anti {r : Int} {l : List Sp} (hg : GoodF r l) (b : Bool) {p q : Int} (h : p ≤ q) : (al l b q).1 ≤ (al l b p).1 ∧ (al l b q).2 ≤ (al l b p).2 := by
  have h1 := curve_anti hg h; have h2 := curve_anti hg (p := -q) (q := -p) (by omega)
  unfold al; split <;> (try simp only []) <;> omega
theorem sure_bd {r : Int} {l : List Sp} (hg : GoodF r l) (b : Bool) (s q : Int) : -2199023255552 ≤ (sure l b s q).1 ∧ (sure l b s q).1 ≤ (sure l b s q).2 ∧ (sure l b s q).2 ≤ 2199023255552 := by
  have h1 := al_bd hg b q; have h2 := al_bd hg (!b) q; have h3 := al_bd hg true q; have h4 := al_bd hg false q
  unfold sure; split
  · exact h1
  · split
    · exact h2
    · split
      · simp only []; omega
      · simp only []; omega
theorem sure_anti {r : Int} {l : List Sp} (hg : GoodF r l) (b : Bool) (s : Int) {p q : Int} (h : p ≤ q) : (sure l b s q).1 ≤ (sure l b s p).1 ∧ (sure l b s q).2 ≤ (sure l b s p).2 := by
  have h1 := al_anti hg b h; have h2 := al_anti hg (!b) h; have h3 := al_anti hg true h; have h4 := al_anti hg false h
  unfold sure; split
  · exact h1
  · split
    · exact h2
    · split
      · simp only []; omega
      · simp only []; omega

end Go.Vi.A
/- Airs, told plainly: their first errors, and settings that fit. -/
namespace Go.Vi.A
set_option linter.unusedVariables false
def thn (e rest : Int) : Int := if e = 0 then rest else e
def placeE (_ : Nat) (x : Pl) : Int := if x.1 < -10000 then 1 else if x.1 > 10000 then 1 else 0
abbrev SpanOk (a b lo hi : Int) : Prop := lo ≤ a ∧ a ≤ b ∧ b ≤ hi
def roadE (n : Nat) (_ : Nat) (x : Ro) : Int :=
  if x.1 < 0 then 4 else if x.1 ≥ (n : Int) then 4 else if x.2.1 < 0 then 4 else if x.2.1 ≥ (n : Int) then 4 else if x.1 = x.2.1 then 4 else
  if x.2.2.1 < 1 then 1 else if x.2.2.1 > 100000 then 1 else if x.2.2.2.1 < 1 then 1 else if x.2.2.2.1 > 1000 then 1 else
  if SpanOk x.2.2.2.2.2.2.1.1 x.2.2.2.2.2.2.1.2 1 262144 then if SpanOk x.2.2.2.2.2.2.2.1 x.2.2.2.2.2.2.2.2 (-2199023255552) 2199023255552 then 0 else 1 else 1
def mineE (pl : List Pl) (ro : List Ro) : Int := if (pl.length : Int) > 64 then 2 else if (ro.length : Int) > 128 then 2 else thn (ferr placeE 0 pl) (ferr (roadE pl.length) 0 ro)
def restE (_ : Nat) (x : Int) : Int := if x < 0 then 1 else if x > 262144 then 1 else 0
def fallE (l : List Int) (i : Nat) (x : Int) : Int := if i = 0 then 0 else if x ≥ l.getD (i - 1) 0 then 15 else 0
def otherE (l : List Do) (i : Nat) (o : Int) : Int :=
  if o = -1 then 0 else if o < 0 then 15 else if o ≥ (l.length : Int) then 15 else if o = (i : Int) then 15 else if (l.getD o.toNat (0, 0, [])).2.1 = (i : Int) then 0 else 15
def doorE (l : List Do) (i : Nat) (x : Do) : Int :=
  if x.1 < 0 then 4 else if (x.2.2.length : Int) < 2 then 2 else if (x.2.2.length : Int) > 6 then 2 else
  thn (ferr restE 0 x.2.2) (thn (ferr (fallE x.2.2) 0 x.2.2) (otherE l i x.2.1))
def doorsE (l : List Do) : Int := if (l.length : Int) > 16 then 2 else ferr (doorE l) 0 l
def fanInE (n : Nat) (_ : Nat) (x : Fa) : Int := thn (fanE x.1 x.2.2.2) (if x.1 ≥ (n : Int) then 4 else 0)
def doorInE (n : Nat) (_ : Nat) (x : Do) : Int := if x.1 ≥ (n : Int) then 4 else 0
/-- The first error of an air. -/
def airE (pl : List Pl) (ro : List Ro) (fa : List Fa) (dr : List Do) : Int :=
  thn (mineE pl ro) (if (fa.length : Int) > 8 then 2 else thn (ferr (fanInE ro.length) 0 fa) (thn (doorsE dr) (ferr (doorInE ro.length) 0 dr)))
def stF (_ : Nat) (x : Int) : Int := if x < -1 then 1 else if x > 2 then 1 else 0
def stD (dr : List Do) (i : Nat) (x : Int) : Int := if x < -1 then 1 else if x ≥ ((dr.getD i (0, 0, [])).2.2.length : Int) then 1 else 0
/-- Whether a setting fits. -/
def fitE (fa : List Fa) (dr : List Do) (sf sd : List Int) : Int :=
  if (sf.length : Int) = (fa.length : Int) then if (sd.length : Int) = (dr.length : Int) then thn (ferr stF 0 sf) (ferr (stD dr) 0 sd) else 1 else 1
def rightE (pl : List Pl) (ro : List Ro) (fa : List Fa) (dr : List Do) (sf sd : List Int) : Int := thn (airE pl ro fa dr) (fitE fa dr sf sd)
theorem thn_zero {e r : Int} : thn e r = 0 ↔ e = 0 ∧ r = 0 := by
  unfold thn; by_cases h : e = 0
  · rw [if_pos h]; exact ⟨fun g => ⟨h, g⟩, fun g => g.2⟩
  · rw [if_neg h]; exact ⟨fun g => absurd g h, fun g => g.1⟩
theorem ifE {β : Type} {c : Prop} [Decidable c] {e B : Int} {A L : Option β} {k0 : Int → Option β} (he : e ≠ 0) (h : ¬ c → A = if B = 0 then L else k0 B) :
    (if c then k0 e else A) = if (if c then e else B) = 0 then L else k0 (if c then e else B) := by
  by_cases hc : c
  · simp only [hc, ↓reduceIte, he]
  · simp only [hc, ↓reduceIte]; exact h hc
theorem ifE' {β : Type} {c : Prop} [Decidable c] {e B : Int} {A L : Option β} {k0 : Int → Option β} (he : e ≠ 0) (h : c → A = if B = 0 then L else k0 B) :
    (if c then A else k0 e) = if (if c then B else e) = 0 then L else k0 (if c then B else e) := by
  by_cases hc : c
  · simp only [hc, ↓reduceIte]; exact h hc
  · simp only [hc, ↓reduceIte, he]
theorem thnE {β : Type} {e B : Int} {A L : Option β} {k0 : Int → Option β} (h : e = 0 → A = if B = 0 then L else k0 B) :
    (if e = 0 then A else k0 e) = if thn e B = 0 then L else k0 (thn e B) := by
  unfold thn
  by_cases hc : e = 0
  · simp only [hc, ↓reduceIte]; exact h hc
  · simp only [hc, ↓reduceIte]
theorem thnV {β : Type} {e v B : Int} {A L : Option β} {k0 : Int → Option β} (hv : e = 0 ∨ e = v) (h : e = 0 → A = if B = 0 then L else k0 B) :
    (if e = 0 then A else k0 v) = if thn e B = 0 then L else k0 (thn e B) := by
  by_cases hc : e = 0
  · exact (by rw [if_pos hc, if_pos hc] : (if e = 0 then A else k0 v) = if e = 0 then A else k0 e).trans (thnE h)
  · have := hv.resolve_left hc
    subst this; exact thnE h
theorem out0 {β : Type} {L : Option β} {k0 : Int → Option β} : L = if (0 : Int) = 0 then L else k0 0 := by rw [if_pos rfl]
theorem ifP0 {β : Type} {c : Prop} [Decidable c] {B : Int} {A L : Option β} {k0 : Int → Option β} (h : c → A = if B = 0 then L else k0 B) :
    (if c then A else L) = if (if c then B else 0) = 0 then L else k0 (if c then B else 0) := by
  by_cases hc : c
  · simp only [hc, ↓reduceIte]; exact h hc
  · simp only [hc, ↓reduceIte]
theorem ifN0 {β : Type} {c : Prop} [Decidable c] {B : Int} {A L : Option β} {k0 : Int → Option β} (h : ¬ c → A = if B = 0 then L else k0 B) :
    (if c then L else A) = if (if c then 0 else B) = 0 then L else k0 (if c then 0 else B) := by
  by_cases hc : c
  · simp only [hc, ↓reduceIte]
  · simp only [hc, ↓reduceIte]; exact h hc
theorem ferr_shift {α : Type} (f : Nat → α → Int) : ∀ (xs : List α) (i : Nat), ferr (fun j => f (j + 1)) i xs = ferr f (i + 1) xs
  | [], _ => rfl
  | x :: r, i => by simp only [ferr, ferr_shift f r (i + 1)]
theorem getD_get {α : Type} {l : List α} {d : α} {i : Nat} (h : i < l.length) : l[i]? = some (l.getD i d) := by simp [List.getD_eq_getElem?_getD, h]
theorem getD_eq {α : Type} {l : List α} {d : α} {i : Nat} {x : α} (h : l[i]? = some x) : l.getD i d = x := by simp [List.getD_eq_getElem?_getD, h]
theorem fall_head (l m : List Int) : ferr (fallE m) 0 l = ferr (fallE m) 1 (l.drop 1) := by
  cases l with
  | nil => rfl
  | cons a r => simp only [ferr, fallE, if_true, List.drop_succ_cons, List.drop_zero]
theorem lerrB {α β : Type} {xs : List α} (f h : Nat → α → Int) {L : Nat → Nat → Bool → Option β} {k0 : Int → Option β} {k1 : Bool → Option β} (hend : ∀ n b, L (n + 1) xs.length b = k1 b)
    (hstep : ∀ i x, xs[i]? = some x → ∀ n b, L (n + 1) i b = if f i x = 0 then L n (i + 1) (b && decide (h i x = 0)) else k0 (f i x)) :
    ∀ n i b, i ≤ xs.length → xs.length < n + i → L n i b = if ferr f i (xs.drop i) = 0 then k1 (b && decide (ferr h i (xs.drop i) = 0)) else k0 (ferr f i (xs.drop i)) := by
  intro n
  induction n with
  | zero => intro i b h1 h2; omega
  | succ n ih =>
    intro i b h1 h2
    by_cases c : i = xs.length
    · subst c
      rw [hend, List.drop_of_length_le (Nat.le_refl _)]
      simp [ferr]
    · have hi : i < xs.length := by omega
      rw [hstep i xs[i] (List.getElem?_eq_getElem hi), List.drop_eq_getElem_cons hi, ih (i + 1) _ (by omega) (by omega)]
      simp only [ferr]
      by_cases e : f i xs[i] = 0
      · simp only [e, ↓reduceIte]
        by_cases q : h i xs[i] = 0
        · simp only [q, ↓reduceIte, decide_true, Bool.and_true]
        · simp only [q, ↓reduceIte, decide_false, Bool.and_false, Bool.false_and]
      · simp only [e, ↓reduceIte]
theorem ferr_val {α : Type} {f : Nat → α → Int} {e : Int} (h : ∀ i x, f i x = 0 ∨ f i x = e) : ∀ (xs : List α) (i : Nat), ferr f i xs = 0 ∨ ferr f i xs = e
  | [], _ => .inl rfl
  | x :: r, i => by
    simp only [ferr]; split
    · exact ferr_val h r (i + 1)
    · exact h i x
theorem fall_val (l xs : List Int) (i : Nat) : ferr (fallE l) i xs = 0 ∨ ferr (fallE l) i xs = 15 := ferr_val (fun i x => by
  unfold fallE; split
  · exact .inl rfl
  · split
    · exact .inr rfl
    · exact .inl rfl) xs i
theorem ifK {β : Type} {c : Prop} [Decidable c] {a b : Int} {k : Int → Option β} {A : Option β} (h : ¬ c → A = k b) : (if c then k a else A) = k (if c then a else b) := by
  by_cases hc : c
  · simp only [hc, ↓reduceIte]
  · simp only [hc, ↓reduceIte]; exact h hc
theorem ifK' {β : Type} {c : Prop} [Decidable c] {a b : Int} {k : Int → Option β} {A : Option β} (h : c → A = k b) : (if c then A else k a) = k (if c then b else a) := by
  by_cases hc : c
  · simp only [hc, ↓reduceIte]; exact h hc
  · simp only [hc, ↓reduceIte]
theorem endK {β : Type} {e : Int} {k : Int → Option β} : (if e = 0 then k 0 else k e) = k e := by
  by_cases hc : e = 0
  · rw [if_pos hc, hc]
  · rw [if_neg hc]
/-- What a test says of an error. -/
def nz {β : Type} (k : Bool → Option β) (e : Int) : Option β := k (decide (e = 0))
theorem nz1 {β : Type} (k : Bool → Option β) : k false = nz k 1 := rfl
theorem nz0 {β : Type} (k : Bool → Option β) : k true = nz k 0 := rfl
theorem thnK {β : Type} {e b : Int} {k : Int → Option β} {A : Option β} (h : e = 0 → A = k b) : (if e = 0 then A else k e) = k (thn e b) := by
  unfold thn
  by_cases hc : e = 0
  · simp only [hc, ↓reduceIte]; exact h hc
  · simp only [hc, ↓reduceIte]
theorem w_succ {i : Nat} (h : i < 4000000000) : w ((i : Int) + 1) = ((i + 1 : Nat) : Int) := by rw [w_id (by omega) (by omega)]; omega
theorem w_pred {i : Nat} (h0 : 0 < i) (h : i < 4000000000) : w ((i : Int) - 1) = ((i - 1 : Nat) : Int) := by rw [w_id (by omega) (by omega)]; omega
theorem airE_len {pl : List Pl} {ro : List Ro} {fa : List Fa} {dr : List Do} (h : airE pl ro fa dr = 0) : fa.length ≤ 8 ∧ dr.length ≤ 16 := by
  unfold airE at h
  rw [thn_zero] at h
  have h1 := h.2
  split at h1
  · cases h1
  · rw [thn_zero, thn_zero] at h1
    have h2 := h1.2.1
    unfold doorsE at h2
    split at h2
    · cases h2
    · omega
end Go.Vi.A
/- Kinds and types of this seat. -/
namespace Go.Vi.B
open Go.Proofs
set_option linter.unusedVariables false
set_option maxRecDepth 100000
abbrev kd0 : Kd := .pair .i .i
abbrev kd1 : Kd := .pair .i .bool
abbrev kd2 : Kd := .pair kd0 kd0
abbrev kd3 : Kd := .pair .bool kd2
abbrev kd4 : Kd := .pair .bool kd3
abbrev kd5 : Kd := .pair .i kd4
abbrev kd6 : Kd := .pair .i kd5
abbrev kd7 : Kd := .pair .i kd6
abbrev kd8 : Kd := .pair .i kd7
abbrev kd9 : Kd := .pair .bool (.fz 116 kd0)
abbrev kd10 : Kd := .pair .bool kd9
abbrev kd11 : Kd := .pair .i kd10
abbrev kd12 : Kd := .pair .i (.fz 3 .i)
abbrev kd13 : Kd := .pair .i kd12
abbrev kd14 : Kd := .pair kd11 .i
abbrev kd15 : Kd := .pair .i (.fz 113 kd14)
abbrev kd16 : Kd := .pair kd8 kd15
abbrev kd17 : Kd := .pair (.fz 3 .i) (.fz 3 .i)
end Go.Vi.B
/- math/bits.Mul64 -/
namespace Go.Vi.B
open Go.Proofs
set_option linter.unusedVariables false
set_option maxRecDepth 100000
abbrev F85.i : Sh := [(0, .one (.int .u64)), (2, .one (.int .u64))]
abbrev F85.o0 : Sh := [(0, .tup [(false, [.int .u64]), (false, [.int .u64])])]
noncomputable def F85.K {β : Type} (N : Nat) (a0 a1 : Int) (k0 : Int → Int → Option β) : Option β :=
 k0 (IntKind.u64.wrap ((IntKind.u64.wrap ((IntKind.u64.wrap ((Int.fdiv a0 (2 ^ (min 32 IntKind.u64.bits))) * (Int.fdiv a1 (2 ^ (min 32 IntKind.u64.bits))))) + (Int.fdiv (IntKind.u64.wrap ((IntKind.u64.wrap ((Int.fdiv a0 (2 ^ (min 32 IntKind.u64.bits))) * (IntKind.u64.wrap ((BitVec.ofInt IntKind.u64.bits a1 &&& BitVec.ofInt IntKind.u64.bits 4294967295).toNat)))) + (Int.fdiv (IntKind.u64.wrap ((IntKind.u64.wrap ((BitVec.ofInt IntKind.u64.bits a0 &&& BitVec.ofInt IntKind.u64.bits 4294967295).toNat)) * (IntKind.u64.wrap ((BitVec.ofInt IntKind.u64.bits a1 &&& BitVec.ofInt IntKind.u64.bits 4294967295).toNat)))) (2 ^ (min 32 IntKind.u64.bits))))) (2 ^ (min 32 IntKind.u64.bits))))) + (Int.fdiv (IntKind.u64.wrap ((IntKind.u64.wrap ((BitVec.ofInt IntKind.u64.bits (IntKind.u64.wrap ((IntKind.u64.wrap ((Int.fdiv a0 (2 ^ (min 32 IntKind.u64.bits))) * (IntKind.u64.wrap ((BitVec.ofInt IntKind.u64.bits a1 &&& BitVec.ofInt IntKind.u64.bits 4294967295).toNat)))) + (Int.fdiv (IntKind.u64.wrap ((IntKind.u64.wrap ((BitVec.ofInt IntKind.u64.bits a0 &&& BitVec.ofInt IntKind.u64.bits 4294967295).toNat)) * (IntKind.u64.wrap ((BitVec.ofInt IntKind.u64.bits a1 &&& BitVec.ofInt IntKind.u64.bits 4294967295).toNat)))) (2 ^ (min 32 IntKind.u64.bits))))) &&& BitVec.ofInt IntKind.u64.bits 4294967295).toNat)) + (IntKind.u64.wrap ((IntKind.u64.wrap ((BitVec.ofInt IntKind.u64.bits a0 &&& BitVec.ofInt IntKind.u64.bits 4294967295).toNat)) * (Int.fdiv a1 (2 ^ (min 32 IntKind.u64.bits))))))) (2 ^ (min 32 IntKind.u64.bits))))) (IntKind.u64.wrap (a0 * a1))
noncomputable def F85.fx : Fx := ⟨Try.prog, [], [], [(0,[0,1]),(1,[0,1,6]),(2,[0,1,6,7]),(3,[0,1,6,7,8]),(4,[0,1,6,7,8,9]),(5,[0,1,6,7,8,9,10]),(6,[0,1,6,7,9,11]),(7,[0,1,6,7,9,11,12]),(8,[0,1,6,7,9,12,13]),(9,[0,1,7,9,12,13]),(10,[0,1,4]),(11,[4,5])], 51, []⟩
noncomputable def F85.cs (N : Nat) : List (Ctr Try.prog) := []
noncomputable def F85.C {β : Type} (N : Nat) := (Sealed fun β => @F85.K β).1 β N
theorem F85.C_eq {β : Type} (N : Nat) : @F85.C β N = @F85.K β N := congrFun (congrFun (Sealed fun β => @F85.K β).2 β) N
noncomputable def F85.X (N : Nat) : Ctr Try.prog := mkF 85 Try.f85 F85.fx (F85.cs N) [] F85.i (fun x k => F85.C N x.1 x.2.1 (fun r0 r1 => k (Sh.mk F85.o0 (r0, r1, ())))) (by intros; rw [F85.C_eq]; kernel_rfl) (by kernel_rfl) (by kernel_rfl) (by kernel_rfl) (by kernel_rfl) rfl (by kernel_rfl) rfl (by kernel_rfl) (by kernel_rfl) (by kernel_rfl) (.dead _ 85) rfl
end Go.Vi.B
/- math/bits.Len64 -/
namespace Go.Vi.B
open Go.Proofs
set_option linter.unusedVariables false
set_option maxRecDepth 100000
abbrev F88.i : Sh := [(0, .one (.int .u64))]
noncomputable def F88.K {β : Type} (N : Nat) (a0 : Int) : Option β :=
 bl (a0 ≥ 4294967296) (
  bl (a0 ≥ 65536) (
   ck (a0 ≥ 256) <|
   none) <|
  ck ((Int.fdiv a0 (2 ^ (min 16 IntKind.u64.bits))) ≥ 256) <|
  none) <|
 bl ((Int.fdiv a0 (2 ^ (min 32 IntKind.u64.bits))) ≥ 65536) (
  ck ((Int.fdiv a0 (2 ^ (min 32 IntKind.u64.bits))) ≥ 256) <|
  none) <|
 ck ((Int.fdiv (Int.fdiv a0 (2 ^ (min 32 IntKind.u64.bits))) (2 ^ (min 16 IntKind.u64.bits))) ≥ 256) <|
 none
noncomputable def F88.fx : Fx := ⟨Try.prog, [], [], [(0,[0,2]),(1,[0,2,4]),(2,[0]),(3,[0,2]),(4,[0,2,8]),(5,[0,2]),(6,[0,2]),(7,[0,2,14]),(8,[0,2]),(9,[0,2]),(10,[2])], 25, []⟩
noncomputable def F88.cs (N : Nat) : List (Ctr Try.prog) := []
noncomputable def F88.C {β : Type} (N : Nat) := (Sealed fun β => @F88.K β).1 β N
theorem F88.C_eq {β : Type} (N : Nat) : @F88.C β N = @F88.K β N := congrFun (congrFun (Sealed fun β => @F88.K β).2 β) N
noncomputable def F88.X (N : Nat) : Ctr Try.prog := mkF 88 Try.f88 F88.fx (F88.cs N) [] F88.i (fun x k => F88.C N x.1) (by intros; rw [F88.C_eq]; kernel_rfl) (by kernel_rfl) (by kernel_rfl) (by kernel_rfl) (by kernel_rfl) rfl (by kernel_rfl) rfl (by kernel_rfl) (by kernel_rfl) (by kernel_rfl) (.dead _ 88) rfl
end Go.Vi.B
/- math/bits.LeadingZeros64 -/
namespace Go.Vi.B
open Go.Proofs
set_option linter.unusedVariables false
set_option maxRecDepth 100000
abbrev F87.i : Sh := [(0, .one (.int .u64))]
noncomputable def F87.K {β : Type} (N : Nat) (a0 : Int) : Option β :=
 F88.C N a0
noncomputable def F87.fx : Fx := ⟨Try.prog, [], [], [(0,[0]),(1,[2])], 6, []⟩
noncomputable def F87.cs (N : Nat) : List (Ctr Try.prog) := [F88.X N]
noncomputable def F87.C {β : Type} (N : Nat) := (Sealed fun β => @F87.K β).1 β N
theorem F87.C_eq {β : Type} (N : Nat) : @F87.C β N = @F87.K β N := congrFun (congrFun (Sealed fun β => @F87.K β).2 β) N
noncomputable def F87.X (N : Nat) : Ctr Try.prog := mkF 87 Try.f87 F87.fx (F87.cs N) [] F87.i (fun x k => F87.C N x.1) (by intros; rw [F87.C_eq]; kernel_rfl) (by kernel_rfl) (by kernel_rfl) (by kernel_rfl) (by kernel_rfl) rfl (by kernel_rfl) rfl (by kernel_rfl) (by kernel_rfl) (by kernel_rfl) (.dead _ 87) rfl
end Go.Vi.B
/- math/bits.Div64 -/
namespace Go.Vi.B
open Go.Proofs
set_option linter.unusedVariables false
set_option maxRecDepth 100000
abbrev F86.i : Sh := [(0, .one (.int .u64)), (2, .one (.int .u64)), (4, .one (.int .u64))]
abbrev F86.o0 : Sh := [(0, .tup [(false, [.int .u64]), (false, [.int .u64])])]
noncomputable def F86.K {β : Type} (N : Nat) (a0 a1 a2 : Int) (k0 : Int → Int → Option β) : Option β :=
 cn (a2 = 0) <|
 cn (a2 ≤ a0) <|
 bl (a0 = 0) (F87.C N a2) <|
 cn (a2 = 0) <|
 cn (a2 = 0) <|
 k0 (IntKind.u64.wrap (Int.tdiv a1 a2)) (Int.tmod a1 a2)
noncomputable def F86.fx : Fx := ⟨Try.prog, [], [], [(0,[0,1,2,6,7]),(1,[0,1,2,6,7,20]),(2,[0,1,2,6,7]),(3,[0,1,2,6,7,24]),(4,[0,1,2,6,7]),(5,[0,1,2,6,7,27]),(6,[6,7]),(7,[0,1,2,6,7,8]),(8,[0,1,2,6,7,8]),(9,[0,1,2,6,7,8,9]),(10,[0,1,2,6,7,8,9,10]),(11,[1,2,6,7,8,9,10,11]),(12,[2,6,7,8,9,10,11,12]),(13,[2,6,7,8,9,10,11,12,13]),(14,[2,6,7,8,9,10,11,13,14]),(15,[2,6,7,8,9,10,11,13,14,15]),(16,[2,6,7,8,9,10,11,13,14,15,16]),(17,[2,6,7,8,9,10,11,13,14,15,16,78]),(18,[2,6,7,8,9,10,11,13,14,15,16]),(19,[2,6,7,8,9,10,11,13,14,15,16]),(20,[2,6,7,8,9,10,11,13,14,15,16,85]),(21,[2,6,7,8,9,10,14,15,17]),(22,[2,6,7,8,9,10,14,15,17,18]),(23,[2,6,7,8,9,10,14,15,16,17,18]),(24,[2,6,7,8,9,10,14,15,16,17,18,113]),(25,[2,6,7,8,9,10,14,15,16,17,18]),(26,[2,6,7,8,9,10,14,15,16,17,18]),(27,[2,6,7,8,9,10,14,15,16,17,18,120]),(28,[6,7])], 135, []⟩
noncomputable def F86.cs (N : Nat) : List (Ctr Try.prog) := [F87.X N]
noncomputable def F86.D0 : LpC Try.prog F86.fx := .dead ((loopsOf (bodyOf Try.f86)).getD 0 .skip) 17 (by kernel_rfl)
noncomputable def F86.D1 : LpC Try.prog F86.fx := .dead ((loopsOf (bodyOf Try.f86)).getD 1 .skip) 24 (by kernel_rfl)
noncomputable def F86.C {β : Type} (N : Nat) := (Sealed fun β => @F86.K β).1 β N
theorem F86.C_eq {β : Type} (N : Nat) : @F86.C β N = @F86.K β N := congrFun (congrFun (Sealed fun β => @F86.K β).2 β) N
noncomputable def F86.X (N : Nat) : Ctr Try.prog := mkF 86 Try.f86 F86.fx (F86.cs N) [F86.D0, F86.D1] F86.i (fun x k => F86.C N x.1 x.2.1 x.2.2.1 (fun r0 r1 => k (Sh.mk F86.o0 (r0, r1, ())))) (by intros; rw [F86.C_eq]; kernel_rfl) (by kernel_rfl) (by kernel_rfl) (by kernel_rfl) (by kernel_rfl) rfl (by kernel_rfl) rfl (by kernel_rfl) (by kernel_rfl) (by kernel_rfl) (.dead _ 86) rfl
end Go.Vi.B
/- minecontrol/fan.between -/
namespace Go.Vi.B
open Go.Proofs
set_option linter.unusedVariables false
set_option maxRecDepth 100000
abbrev F84.i : Sh := [(0, .agg [.i, .i]), (2, .agg [.i, .i]), (4, .one .i)]
abbrev F84.o0 : Sh := [(0, .agg [.i, .i])]
noncomputable def F84.K {β : Type} (N : Nat) (a0 a1 a2 a3 a4 : Int) (k0 : Int → Int → Option β) : Option β :=
 F85.C N (IntKind.u64.wrap ((w (a1 - a3)))) (IntKind.u64.wrap ((w (a4 - a0)))) fun r1 r2 =>
 F86.C N r1 r2 (IntKind.u64.wrap ((w (a2 - a0)))) fun r3 r4 =>
 br (r4 > 0) (k0 (w ((w (a1 - (w (r3)))) - 1)) (w (a1 - (w (r3))))) <|
 k0 (w (a1 - (w (r3)))) (w (a1 - (w (r3))))
noncomputable def F84.fx : Fx := ⟨Try.prog, [6], [], [(0,[2,3,4,6]),(1,[3,4,6,7,8]),(2,[3,6,9,10]),(3,[6,10,11]),(4,[6,11,51]),(5,[6,11]),(6,[6])], 57, []⟩
noncomputable def F84.cs (N : Nat) : List (Ctr Try.prog) := [F85.X N, F86.X N]
noncomputable def F84.C {β : Type} (N : Nat) := (Sealed fun β => @F84.K β).1 β N
theorem F84.C_eq {β : Type} (N : Nat) : @F84.C β N = @F84.K β N := congrFun (congrFun (Sealed fun β => @F84.K β).2 β) N
noncomputable def F84.X (N : Nat) : Ctr Try.prog := mkF 84 Try.f84 F84.fx (F84.cs N) [] F84.i (fun x k => F84.C N x.1 x.2.1 x.2.2.1 x.2.2.2.1 x.2.2.2.2.1 (fun r0 r1 => k (Sh.mk F84.o0 (r0, r1, ())))) (by intros; rw [F84.C_eq]; kernel_rfl) (by kernel_rfl) (by kernel_rfl) (by kernel_rfl) (by kernel_rfl) rfl (by kernel_rfl) rfl (by kernel_rfl) (by kernel_rfl) (by kernel_rfl) (.dead _ 84) rfl
end Go.Vi.B
/- minecontrol/fan.curve -/
namespace Go.Vi.B
open Go.Proofs
set_option linter.unusedVariables false
set_option maxRecDepth 100000
abbrev F78.i : Sh := [(0, .agg [.i, .bool, .bool, .lst .frz 116 kd0]), (2, .one .i)]
abbrev F78.o0 : Sh := [(0, .agg [.i, .i])]
noncomputable def F78.l5 {β : Type} (N : Nat) : Nat → Int → Int → Bool → Bool → (List Sp) → Int → Int → Int → Int → Int → (Int → Int → Option β) → (Int → Int → Bool → Bool → List Sp → Int → Int → Int → Int → Int → Bool → Option β) → Option β
 | 0, _, _, _, _, _, _, _, _, _, _, _, _ => none
 | n + 1, v0, v1, v2, v3, v4, v5, v6, v7, v8, v9, k0, k1 =>
  bl (v9 < (v4.length : Int)) (k1 v0 v1 v2 v3 v4 v5 v6 v7 v8 v9 (decide (v9 < (v4.length : Int)))) <|
  ck (0 ≤ v9) <|
  ge (v4[v9.toNat]?) fun x1 =>
  bl (v0 ≤ x1.1) (F78.l5 N n v0 v1 v2 v3 v4 v5 v6 v7 v8 (w (v9 + 1)) k0 k1) <|
  ck (0 ≤ (w (v9 - 1))) <|
  ge (v4[(w (v9 - 1)).toNat]?) fun x2 =>
  ck (0 ≤ v9) <|
  ge (v4[v9.toNat]?) fun x3 =>
  F84.C N x2.1 x2.2 x3.1 x3.2 v0 fun r4 r5 =>
  k0 r4 r5
noncomputable def F78.K {β : Type} (N : Nat) (a0 : Int) (a1 a2 : Bool) (a3 : List Sp) (a4 : Int) (k0 : Int → Int → Option β) : Option β :=
 ge (a3[0]?) fun x1 =>
 ck (0 ≤ (w ((a3.length : Int) - 1))) <|
 ge (a3[(w ((a3.length : Int) - 1)).toNat]?) fun x2 =>
 br (a4 ≤ x1.1) (k0 x1.2 x1.2) <|
 F78.l5 N N a4 a0 a1 a2 a3 0 0 x2.1 x2.2 1 (fun z6 z7 => k0 z6 z7) fun _ _ _ _ _ _ _ _ z16 _ _ =>
 k0 z16 z16
noncomputable def F78.fx : Fx := ⟨Try.prog, [4], [], [(0,[1,2,4]),(1,[1,2,4,5,6]),(2,[1,2,4,5,6,23]),(3,[4]),(4,[1,2,4,6,7]),(5,[1,2,4,6,7,33]),(6,[1,2,4,6,7]),(7,[1,2,4,6,7,43]),(8,[4]),(9,[4])], 62, []⟩
noncomputable def F78.cs (N : Nat) : List (Ctr Try.prog) := [F84.X N]
abbrev F78.s5 : Sh := [(2, .one .i), (4, .one (.addr 2 0)), (5, .slot false [.i, .bool, .bool, .lst .frz 116 kd0]), (8, .one (.addr 4 0)), (9, .slot false [.i, .i]), (12, .one (.addr 6 0)), (13, .slot false [.i, .i]), (14, .one .i)]
abbrev F78.e5_0 : Sh := [(8, .one (.addr 4 0)), (9, .slot false [.i, .i])]
abbrev F78.e5_1 : Sh := [(2, .one .i), (4, .one (.addr 2 0)), (5, .slot false [.i, .bool, .bool, .lst .frz 116 kd0]), (8, .one (.addr 4 0)), (9, .slot false [.i, .i]), (12, .one (.addr 6 0)), (13, .slot false [.i, .i]), (14, .one .i), (66, .one .bool)]
noncomputable def F78.X5 (N : Nat) : LpC Try.prog F78.fx := mkL (F78.cs N) [] ((loopsOf (bodyOf Try.f78)).getD 0 .skip) 5 [1,2,4,6,7] (by kernel_rfl) (by kernel_rfl) (by kernel_rfl) F78.s5 (fun n x k => F78.l5 N n x.1 x.2.1 x.2.2.1 x.2.2.2.1 x.2.2.2.2.1 x.2.2.2.2.2.1 x.2.2.2.2.2.2.1 x.2.2.2.2.2.2.2.1 x.2.2.2.2.2.2.2.2.1 x.2.2.2.2.2.2.2.2.2.1 (fun r0 r1 => k (.ret) (Sh.mk F78.e5_0 (r0, r1, ()))) (fun r0 r1 r2 r3 r4 r5 r6 r7 r8 r9 r10 => k (.exit 0) (Sh.mk F78.e5_1 (r0, r1, r2, r3, r4, r5, r6, r7, r8, r9, r10, ())))) (fun _ _ => rfl) (fun _ _ _ => by kernel_rfl) N
noncomputable def F78.C {β : Type} (N : Nat) := (Sealed fun β => @F78.K β).1 β N
theorem F78.C_eq {β : Type} (N : Nat) : @F78.C β N = @F78.K β N := congrFun (congrFun (Sealed fun β => @F78.K β).2 β) N
noncomputable def F78.X (N : Nat) : Ctr Try.prog := mkF 78 Try.f78 F78.fx (F78.cs N) [F78.X5 N] F78.i (fun x k => F78.C N x.1 x.2.1 x.2.2.1 x.2.2.2.1 x.2.2.2.2.1 (fun r0 r1 => k (Sh.mk F78.o0 (r0, r1, ())))) (by intros; rw [F78.C_eq]; kernel_rfl) (by kernel_rfl) (by kernel_rfl) (by kernel_rfl) (by kernel_rfl) rfl (by kernel_rfl) rfl (by kernel_rfl) (by kernel_rfl) (by kernel_rfl) (.dead _ 78) rfl
end Go.Vi.B
/- minecontrol/fan.along -/
namespace Go.Vi.B
open Go.Proofs
set_option linter.unusedVariables false
set_option maxRecDepth 100000
abbrev F75.i : Sh := [(0, .agg [.i, .bool, .bool, .lst .frz 116 kd0]), (2, .one .bool), (4, .one .i)]
abbrev F75.o0 : Sh := [(0, .agg [.i, .i])]
noncomputable def F75.K {β : Type} (N : Nat) (a0 : Int) (a1 a2 : Bool) (a3 : List Sp) (a4 : Bool) (a5 : Int) (k0 : Int → Int → Option β) : Option β :=
 br (!a4) (
  F78.C N a0 a1 a2 a3 a5 fun r1 r2 =>
  k0 r1 r2) <|
 F78.C N a0 a1 a2 a3 (w (0 - a5)) fun r3 r4 =>
 k0 (w (0 - r4)) (w (0 - r3))
noncomputable def F75.fx : Fx := ⟨Try.prog, [6], [], [(0,[1,2,3,6]),(1,[2,3,6,9]),(2,[6]),(3,[6,7]),(4,[6])], 24, []⟩
noncomputable def F75.cs (N : Nat) : List (Ctr Try.prog) := [F78.X N]
noncomputable def F75.C {β : Type} (N : Nat) := (Sealed fun β => @F75.K β).1 β N
theorem F75.C_eq {β : Type} (N : Nat) : @F75.C β N = @F75.K β N := congrFun (congrFun (Sealed fun β => @F75.K β).2 β) N
noncomputable def F75.X (N : Nat) : Ctr Try.prog := mkF 75 Try.f75 F75.fx (F75.cs N) [] F75.i (fun x k => F75.C N x.1 x.2.1 x.2.2.1 x.2.2.2.1 x.2.2.2.2.1 x.2.2.2.2.2.1 (fun r0 r1 => k (Sh.mk F75.o0 (r0, r1, ())))) (by intros; rw [F75.C_eq]; kernel_rfl) (by kernel_rfl) (by kernel_rfl) (by kernel_rfl) (by kernel_rfl) rfl (by kernel_rfl) rfl (by kernel_rfl) (by kernel_rfl) (by kernel_rfl) (.dead _ 75) rfl
end Go.Vi.B
/- minecontrol/fan.Sure -/
namespace Go.Vi.B
open Go.Proofs
set_option linter.unusedVariables false
set_option maxRecDepth 100000
abbrev F65.i : Sh := [(0, .agg [.i, .bool, .bool, .lst .frz 116 kd0]), (2, .one .i), (4, .one .i)]
abbrev F65.o0 : Sh := [(0, .agg [.i, .i])]
noncomputable def F65.K {β : Type} (N : Nat) (a0 : Int) (a1 a2 : Bool) (a3 : List Sp) (a4 a5 : Int) (k0 : Int → Int → Option β) : Option β :=
 br (a4 = 1) (
  F75.C N a0 a1 a2 a3 a1 a5 fun r1 r2 =>
  k0 r1 r2) <|
 br (a4 = 2) (
  F75.C N a0 a1 a2 a3 (!a1) a5 fun r3 r4 =>
  k0 r3 r4) <|
 bl (a4 = (-1)) (k0 0 0) <|
 F75.C N a0 a1 a2 a3 false a5 fun r5 r6 =>
 F75.C N a0 a1 a2 a3 true a5 fun r7 r8 =>
 k0 (if r7 < (if r5 < 0 then r5 else 0) then r7 else (if r5 < 0 then r5 else 0)) (if r8 > (if r6 > 0 then r6 else 0) then r8 else (if r6 > 0 then r6 else 0))
noncomputable def F65.fx : Fx := ⟨Try.prog, [6], [], [(0,[1,2,3,6]),(1,[2,3,6,9]),(2,[2,3,6,9,10]),(3,[6]),(4,[2,3,6,9,17]),(5,[6]),(6,[2,3,6,25]),(7,[6,7,8]),(8,[6]),(9,[6])], 45, []⟩
noncomputable def F65.cs (N : Nat) : List (Ctr Try.prog) := [F75.X N]
noncomputable def F65.C {β : Type} (N : Nat) := (Sealed fun β => @F65.K β).1 β N
theorem F65.C_eq {β : Type} (N : Nat) : @F65.C β N = @F65.K β N := congrFun (congrFun (Sealed fun β => @F65.K β).2 β) N
noncomputable def F65.X (N : Nat) : Ctr Try.prog := mkF 65 Try.f65 F65.fx (F65.cs N) [] F65.i (fun x k => F65.C N x.1 x.2.1 x.2.2.1 x.2.2.2.1 x.2.2.2.2.1 x.2.2.2.2.2.1 (fun r0 r1 => k (Sh.mk F65.o0 (r0, r1, ())))) (by intros; rw [F65.C_eq]; kernel_rfl) (by kernel_rfl) (by kernel_rfl) (by kernel_rfl) (by kernel_rfl) rfl (by kernel_rfl) rfl (by kernel_rfl) (by kernel_rfl) (by kernel_rfl) (.dead _ 65) rfl
end Go.Vi.B
/- minecontrol/minecontrolref05.Floor -/
namespace Go.Vi.B
open Go.Proofs
set_option linter.unusedVariables false
set_option maxRecDepth 100000
abbrev F79.i : Sh := [(0, .one .i), (2, .one .i)]
abbrev F79.o0 : Sh := [(0, .one .i)]
noncomputable def F79.K {β : Type} (N : Nat) (a0 a1 : Int) (k0 : Int → Option β) : Option β :=
 cn (a1 = 0) <|
 cn (a1 = 0) <|
 br ((Int.tmod a0 a1) < 0) (k0 (w ((w (Int.tdiv a0 a1)) - 1))) <|
 k0 (w (Int.tdiv a0 a1))
noncomputable def F79.fx : Fx := ⟨Try.prog, [], [], [(0,[0,1]),(1,[0,1,5]),(2,[5,12]),(3,[5]),(4,[4])], 16, []⟩
noncomputable def F79.cs (N : Nat) : List (Ctr Try.prog) := []
noncomputable def F79.C {β : Type} (N : Nat) := (Sealed fun β => @F79.K β).1 β N
theorem F79.C_eq {β : Type} (N : Nat) : @F79.C β N = @F79.K β N := congrFun (congrFun (Sealed fun β => @F79.K β).2 β) N
noncomputable def F79.X (N : Nat) : Ctr Try.prog := mkF 79 Try.f79 F79.fx (F79.cs N) [] F79.i (fun x k => F79.C N x.1 x.2.1 (fun r0 => k (Sh.mk F79.o0 (r0, ())))) (by intros; rw [F79.C_eq]; kernel_rfl) (by kernel_rfl) (by kernel_rfl) (by kernel_rfl) (by kernel_rfl) rfl (by kernel_rfl) rfl (by kernel_rfl) (by kernel_rfl) (by kernel_rfl) (.dead _ 79) rfl
end Go.Vi.B
/- minecontrol/minecontrolref05.Ceil -/
namespace Go.Vi.B
open Go.Proofs
set_option linter.unusedVariables false
set_option maxRecDepth 100000
abbrev F80.i : Sh := [(0, .one .i), (2, .one .i)]
abbrev F80.o0 : Sh := [(0, .one .i)]
noncomputable def F80.K {β : Type} (N : Nat) (a0 a1 : Int) (k0 : Int → Option β) : Option β :=
 F79.C N (w (0 - a0)) a1 fun r1 =>
 k0 (w (0 - r1))
noncomputable def F80.fx : Fx := ⟨Try.prog, [], [], [(0,[0,1]),(1,[4])], 10, []⟩
noncomputable def F80.cs (N : Nat) : List (Ctr Try.prog) := [F79.X N]
noncomputable def F80.C {β : Type} (N : Nat) := (Sealed fun β => @F80.K β).1 β N
theorem F80.C_eq {β : Type} (N : Nat) : @F80.C β N = @F80.K β N := congrFun (congrFun (Sealed fun β => @F80.K β).2 β) N
noncomputable def F80.X (N : Nat) : Ctr Try.prog := mkF 80 Try.f80 F80.fx (F80.cs N) [] F80.i (fun x k => F80.C N x.1 x.2.1 (fun r0 => k (Sh.mk F80.o0 (r0, ())))) (by intros; rw [F80.C_eq]; kernel_rfl) (by kernel_rfl) (by kernel_rfl) (by kernel_rfl) (by kernel_rfl) rfl (by kernel_rfl) rfl (by kernel_rfl) (by kernel_rfl) (by kernel_rfl) (.dead _ 80) rfl
end Go.Vi.B
/- minecontrol/minecontrolref07.Inner -/
namespace Go.Vi.B
open Go.Proofs
set_option linter.unusedVariables false
set_option maxRecDepth 100000
abbrev F76.i : Sh := [(0, .agg [.i, .bool, .bool, .lst .frz 116 kd0]), (2, .one .i)]
abbrev F76.o0 : Sh := [(0, .agg [.i, .i])]
noncomputable def F76.l7 {β : Type} (N : Nat) : Nat → Int → Int → Bool → Bool → (List Sp) → Int → Int → Int → (Int → Int → Bool → Bool → List Sp → Int → Int → Int → Bool → Option β) → Option β
 | 0, _, _, _, _, _, _, _, _, _ => none
 | n + 1, v0, v1, v2, v3, v4, v5, v6, v7, k0 =>
  ck (0 ≤ (w (v7 + 1))) <|
  ge (v4[(w (v7 + 1)).toNat]?) fun x1 =>
  br (x1.1 ≤ v0) (F76.l7 N n v0 v1 v2 v3 v4 v5 v6 (w (v7 + 1)) k0) <|
  k0 v0 v1 v2 v3 v4 v5 v6 v7 (decide (x1.1 ≤ v0))
noncomputable def F76.K {β : Type} (N : Nat) (a0 : Int) (a1 a2 : Bool) (a3 : List Sp) (a4 : Int) (k0 : Int → Int → Option β) : Option β :=
 ge (a3[0]?) fun x1 =>
 br (a4 ≤ x1.1) (
  ge (a3[0]?) fun x2 =>
  ge (a3[0]?) fun x3 =>
  k0 x2.2 x3.2) <|
 ck (0 ≤ (w ((a3.length : Int) - 1))) <|
 ge (a3[(w ((a3.length : Int) - 1)).toNat]?) fun x4 =>
 br (a4 ≥ x4.1) (
  ck (0 ≤ (w ((a3.length : Int) - 1))) <|
  ge (a3[(w ((a3.length : Int) - 1)).toNat]?) fun x5 =>
  ck (0 ≤ (w ((a3.length : Int) - 1))) <|
  ge (a3[(w ((a3.length : Int) - 1)).toNat]?) fun x6 =>
  k0 x5.2 x6.2) <|
 F76.l7 N N a4 a0 a1 a2 a3 0 0 0 fun z7 _ _ _ z11 _ _ z14 _ =>
 ck (0 ≤ z14) <|
 ge (z11[z14.toNat]?) fun x16 =>
 ck (0 ≤ (w (z14 + 1))) <|
 ge (z11[(w (z14 + 1)).toNat]?) fun x17 =>
 F79.C N (w ((w (x17.2 - x16.2)) * (w (z7 - x16.1)))) (w (x17.1 - x16.1)) fun r18 =>
 F80.C N (w ((w (x17.2 - x16.2)) * (w (z7 - x16.1)))) (w (x17.1 - x16.1)) fun r19 =>
 k0 (w (x16.2 + r18)) (w (x16.2 + r19))
noncomputable def F76.fx : Fx := ⟨Try.prog, [4], [], [(0,[1,2,4]),(1,[1,2,4,5]),(2,[1,2,4,5,20]),(3,[4]),(4,[1,2,4,5,40]),(5,[4]),(6,[1,2,4,6]),(7,[1,2,4,6,64]),(8,[1,2,4,6]),(9,[1,4,7,8]),(10,[4,7,9,10]),(11,[4])], 106, []⟩
noncomputable def F76.cs (N : Nat) : List (Ctr Try.prog) := [F79.X N, F80.X N]
abbrev F76.s7 : Sh := [(2, .one .i), (4, .one (.addr 2 0)), (5, .slot false [.i, .bool, .bool, .lst .frz 116 kd0]), (8, .one (.addr 4 0)), (9, .slot false [.i, .i]), (12, .one .i)]
abbrev F76.e7_0 : Sh := [(2, .one .i), (4, .one (.addr 2 0)), (5, .slot false [.i, .bool, .bool, .lst .frz 116 kd0]), (8, .one (.addr 4 0)), (9, .slot false [.i, .i]), (12, .one .i), (128, .one .bool)]
noncomputable def F76.X7 (N : Nat) : LpC Try.prog F76.fx := mkL (F76.cs N) [] ((loopsOf (bodyOf Try.f76)).getD 0 .skip) 7 [1,2,4,6] (by kernel_rfl) (by kernel_rfl) (by kernel_rfl) F76.s7 (fun n x k => F76.l7 N n x.1 x.2.1 x.2.2.1 x.2.2.2.1 x.2.2.2.2.1 x.2.2.2.2.2.1 x.2.2.2.2.2.2.1 x.2.2.2.2.2.2.2.1 (fun r0 r1 r2 r3 r4 r5 r6 r7 r8 => k (.exit 0) (Sh.mk F76.e7_0 (r0, r1, r2, r3, r4, r5, r6, r7, r8, ())))) (fun _ _ => rfl) (fun _ _ _ => by kernel_rfl) N
noncomputable def F76.C {β : Type} (N : Nat) := (Sealed fun β => @F76.K β).1 β N
theorem F76.C_eq {β : Type} (N : Nat) : @F76.C β N = @F76.K β N := congrFun (congrFun (Sealed fun β => @F76.K β).2 β) N
noncomputable def F76.X (N : Nat) : Ctr Try.prog := mkF 76 Try.f76 F76.fx (F76.cs N) [F76.X7 N] F76.i (fun x k => F76.C N x.1 x.2.1 x.2.2.1 x.2.2.2.1 x.2.2.2.2.1 (fun r0 r1 => k (Sh.mk F76.o0 (r0, r1, ())))) (by intros; rw [F76.C_eq]; kernel_rfl) (by kernel_rfl) (by kernel_rfl) (by kernel_rfl) (by kernel_rfl) rfl (by kernel_rfl) rfl (by kernel_rfl) (by kernel_rfl) (by kernel_rfl) (.dead _ 76) rfl
end Go.Vi.B
/- minecontrol/minecontrolref07.Along -/
namespace Go.Vi.B
open Go.Proofs
set_option linter.unusedVariables false
set_option maxRecDepth 100000
abbrev F66.i : Sh := [(0, .agg [.i, .bool, .bool, .lst .frz 116 kd0]), (2, .one .bool), (4, .one .i)]
abbrev F66.o0 : Sh := [(0, .agg [.i, .i])]
noncomputable def F66.K {β : Type} (N : Nat) (a0 : Int) (a1 a2 : Bool) (a3 : List Sp) (a4 : Bool) (a5 : Int) (k0 : Int → Int → Option β) : Option β :=
 bl a4 (
  F76.C N a0 a1 a2 a3 a5 fun r3 r4 =>
  k0 r3 r4) <|
 F76.C N a0 a1 a2 a3 (w (0 - a5)) fun r1 r2 =>
 k0 (w (0 - r2)) (w (0 - r1))
noncomputable def F66.fx : Fx := ⟨Try.prog, [6], [], [(0,[1,2,3,6]),(1,[2,3,6,8]),(2,[6,7]),(3,[6]),(4,[6])], 23, []⟩
noncomputable def F66.cs (N : Nat) : List (Ctr Try.prog) := [F76.X N]
noncomputable def F66.C {β : Type} (N : Nat) := (Sealed fun β => @F66.K β).1 β N
theorem F66.C_eq {β : Type} (N : Nat) : @F66.C β N = @F66.K β N := congrFun (congrFun (Sealed fun β => @F66.K β).2 β) N
noncomputable def F66.X (N : Nat) : Ctr Try.prog := mkF 66 Try.f66 F66.fx (F66.cs N) [] F66.i (fun x k => F66.C N x.1 x.2.1 x.2.2.1 x.2.2.2.1 x.2.2.2.2.1 x.2.2.2.2.2.1 (fun r0 r1 => k (Sh.mk F66.o0 (r0, r1, ())))) (by intros; rw [F66.C_eq]; kernel_rfl) (by kernel_rfl) (by kernel_rfl) (by kernel_rfl) (by kernel_rfl) rfl (by kernel_rfl) rfl (by kernel_rfl) (by kernel_rfl) (by kernel_rfl) (.dead _ 66) rfl
end Go.Vi.B
/- minecontrol/minecontrolref07.State -/
namespace Go.Vi.B
open Go.Proofs
set_option linter.unusedVariables false
set_option maxRecDepth 100000
abbrev F53.i : Sh := [(0, .agg [.i, .bool, .bool, .lst .frz 116 kd0]), (2, .one .i), (4, .one .i)]
abbrev F53.o0 : Sh := [(0, .agg [.i, .i])]
noncomputable def F53.K {β : Type} (N : Nat) (a0 : Int) (a1 a2 : Bool) (a3 : List Sp) (a4 a5 : Int) (k0 : Int → Int → Option β) : Option β :=
 br (a4 = 0) (k0 0 0) <|
 br (a4 = 1) (
  F66.C N a0 a1 a2 a3 a1 a5 fun r1 r2 =>
  k0 r1 r2) <|
 br (a4 = 2) (
  F66.C N a0 a1 a2 a3 (!a1) a5 fun r3 r4 =>
  k0 r3 r4) <|
 F66.C N a0 a1 a2 a3 false a5 fun r5 r6 =>
 F66.C N a0 a1 a2 a3 true a5 fun r7 r8 =>
 k0 (if 0 < (if r7 < r5 then r7 else r5) then 0 else (if r7 < r5 then r7 else r5)) (if 0 > (if r8 > r6 then r8 else r6) then 0 else (if r8 > r6 then r8 else r6))
noncomputable def F53.fx : Fx := ⟨Try.prog, [6], [], [(0,[1,2,3,6]),(1,[2,3,6,9]),(2,[2,3,6,9,10]),(3,[6]),(4,[2,3,6,9,13]),(5,[6]),(6,[2,3,6,20]),(7,[6]),(8,[6,7,8]),(9,[6])], 45, []⟩
noncomputable def F53.cs (N : Nat) : List (Ctr Try.prog) := [F66.X N]
noncomputable def F53.C {β : Type} (N : Nat) := (Sealed fun β => @F53.K β).1 β N
theorem F53.C_eq {β : Type} (N : Nat) : @F53.C β N = @F53.K β N := congrFun (congrFun (Sealed fun β => @F53.K β).2 β) N
noncomputable def F53.X (N : Nat) : Ctr Try.prog := mkF 53 Try.f53 F53.fx (F53.cs N) [] F53.i (fun x k => F53.C N x.1 x.2.1 x.2.2.1 x.2.2.2.1 x.2.2.2.2.1 x.2.2.2.2.2.1 (fun r0 r1 => k (Sh.mk F53.o0 (r0, r1, ())))) (by intros; rw [F53.C_eq]; kernel_rfl) (by kernel_rfl) (by kernel_rfl) (by kernel_rfl) (by kernel_rfl) rfl (by kernel_rfl) rfl (by kernel_rfl) (by kernel_rfl) (by kernel_rfl) (.dead _ 53) rfl
end Go.Vi.B
/- What fans give: the program and its reference compute the same. -/
namespace Go.Vi.B
open Go.Proofs Go.Vi.A
set_option linter.unusedVariables false
set_option linter.unusedSimpArgs false
variable {β : Type} {N : Nat}
theorem mnI (a b : Int) : (if b < a then b else a) = min a b := by split <;> omega
theorem mxI (a b : Int) : (if b > a then b else a) = max a b := by split <;> omega
theorem mask32 (a : Int) (h0 : 0 ≤ a) (h1 : a < 18446744073709551616) : IntKind.u64.wrap ((BitVec.ofInt IntKind.u64.bits a &&& BitVec.ofInt IntKind.u64.bits 4294967295).toNat) = a % 4294967296 := by
  have := bits_mask .u64 64 (by decide) (fun n h0 h1 => wu_id h0 (by simpa using h1)) 32 (by decide) a h0 (by simpa using h1)
  have e1 : (2 : Int) ^ 32 = 4294967296 := by decide
  rw [e1] at this
  exact this
theorem shr32 (a : Int) : Int.fdiv a (2 ^ (min 32 IntKind.u64.bits)) = a / 4294967296 := by
  have : (2 : Int) ^ (min 32 IntKind.u64.bits) = 4294967296 := by decide
  rw [this, Int.fdiv_eq_ediv_of_nonneg _ (by omega)]
theorem mul64 {x y : Int} (h0 : 0 ≤ x) (h1 : x ≤ 2199023255552) (h2 : 0 ≤ y) (h3 : y ≤ 2097152) (k : Int → Int → Option β) : F85.C N x y k = k 0 (x * y) := by
  have hp := mul_le h0 h1 h2 h3
  have ey : y / 4294967296 = 0 := by omega
  have ey' : y % 4294967296 = y := by omega
  have hx : 0 ≤ x / 4294967296 ∧ x / 4294967296 ≤ 512 := by omega
  have hl : 0 ≤ x % 4294967296 ∧ x % 4294967296 ≤ 4294967295 := by omega
  have p1 := mul_le hx.1 hx.2 h2 h3
  have p2 := mul_le hl.1 hl.2 h2 h3
  have q2 : 0 ≤ (x % 4294967296 * y) / 4294967296 ∧ (x % 4294967296 * y) / 4294967296 ≤ 4194304 := by omega
  rw [F85.C_eq]; unfold F85.K
  simp only [shr32]
  rw [mask32 x h0 (by omega), mask32 y h2 (by omega), ey, ey']
  rw [wu_id (x := x % 4294967296 * y) (by omega) (by omega)]
  rw [wu_id (x := x / 4294967296 * y) (by omega) (by omega)]
  rw [wu_id (x := x / 4294967296 * y + x % 4294967296 * y / 4294967296) (by omega) (by omega)]
  rw [mask32 _ (by omega) (by omega)]
  simp only [Int.mul_zero]
  rw [wu_id (x := 0) (by omega) (by omega), wu_id (x := x * y) (by omega) (by omega)]
  generalize hz : x / 4294967296 * y + x % 4294967296 * y / 4294967296 = z
  have hz0 : 0 ≤ z ∧ z < 4294967296 := by omega
  have e1 : z / 4294967296 = 0 := by omega
  have e2 : z % 4294967296 = z := by omega
  rw [e1, e2, Int.add_zero, Int.add_zero, wu_id (x := z) (by omega) (by omega), e1, wu_id (x := 0) (by omega) (by omega), Int.add_zero, wu_id (x := 0) (by omega) (by omega)]
theorem div64 {x y : Int} (h0 : 0 ≤ x) (h1 : x < 18446744073709551616) (hy : 0 < y) (k : Int → Int → Option β) : F86.C N 0 x y k = k (x / y) (x % y) := by
  have hq : 0 ≤ x / y := Int.ediv_nonneg h0 (by omega)
  have hq' : x / y ≤ x := Int.ediv_le_self _ h0
  rw [F86.C_eq]; unfold F86.K
  simp only [res]
  rw [if_neg (by omega), if_neg (by omega), if_pos trivial, if_neg (by omega), if_neg (by omega), Int.tdiv_eq_ediv_of_nonneg h0, Int.tmod_eq_emod_of_nonneg h0, wu_id hq (by omega)]
theorem between_eq {a b : Sp} (h : Nb a b) {q : Int} (h1 : a.1 ≤ q) (h2 : q ≤ b.1) (k : Int → Int → Option β) : F84.C N a.1 a.2 b.1 b.2 q k = k (seg a b q).1 (seg a b q).2 := by
  have e1 := h.a0; have e2 := h.b0; have e3 := h.lt; have e4 := h.b1; have e5 := h.ge; have e6 := h.a1
  obtain ⟨p1, p2, p3, p4⟩ := seg_bd h h1 h2
  rw [F84.C_eq]; unfold F84.K seg
  rw [w_id (x := a.2 - b.2) (by omega) (by omega), w_id (x := q - a.1) (by omega) (by omega), w_id (x := b.1 - a.1) (by omega) (by omega)]
  rw [wu_id (x := a.2 - b.2) (by omega) (by omega), wu_id (x := q - a.1) (by omega) (by omega), wu_id (x := b.1 - a.1) (by omega) (by omega)]
  rw [mul64 (by omega) (by omega) (by omega) (by omega), div64 p1 (by omega) (by omega)]
  simp only [res]
  generalize (a.2 - b.2) * (q - a.1) / (b.1 - a.1) = u at *
  rw [w_id (x := u) (by omega) (by omega), w_id (x := a.2 - u) (by omega) (by omega)]
  split
  · rw [w_id (by omega) (by omega)]
  · rw [Int.sub_zero]
variable (hN : 1000 ≤ N)
include hN in
theorem fan_curve {r : Int} {l : List Sp} (hg : GoodF r l) (r0 : Int) (b1 b2 : Bool) (q : Int) (k : Int → Int → Option β) : F78.C N r0 b1 b2 l q k = k (cv l q).1 (cv l q).2 := by
  have h1 := hg.ne; have h8 := hg.le
  rw [F78.C_eq]; unfold F78.K
  have g0 : l[0]? = some (ptAt l 0) := ptAt_get (by omega)
  simp only [g0, ge_some, res, w_pred (show 0 < l.length by omega) (show l.length < 4000000000 by omega), Int.toNat_natCast, ptAt_get (show l.length - 1 < l.length by omega)]
  rw [if_pos (by omega)]
  by_cases c : q ≤ (ptAt l 0).1
  · have : cv l q = ((ptAt l 0).2, (ptAt l 0).2) := by
      show cv (l.drop 0) q = _
      rw [pt_drop (show 0 < l.length by omega)]
      by_cases h : 1 < l.length
      · rw [pt_drop h]; simp only [cv]; rw [if_pos c]
      · rw [List.drop_of_length_le (by omega)]; rfl
    rw [if_pos c, this]
  · rw [if_neg c]
    have key : ∀ d n i, i + 1 + d = l.length → d < n → (ptAt l i).1 < q → F78.l5 N n q r0 b1 b2 l 0 0 (ptAt l (l.length - 1)).1 (ptAt l (l.length - 1)).2 ((i + 1 : Nat) : Int) (fun z6 z7 => k z6 z7) (fun _ _ _ _ _ _ _ _ z16 _ _ => k z16 z16) = k (cv (l.drop i) q).1 (cv (l.drop i) q).2 := by
      intro d
      induction d with
      | zero =>
        intro n i h hn hq
        obtain ⟨n, rfl⟩ : ∃ m, n = m + 1 := ⟨n - 1, by omega⟩
        simp only [F78.l5, res]
        rw [if_neg (by omega), pt_drop (by omega), List.drop_of_length_le (by omega)]
        have e : i = l.length - 1 := by omega
        simp only [cv, e]
      | succ d ih =>
        intro n i h hn hq
        obtain ⟨n, rfl⟩ : ∃ m, n = m + 1 := ⟨n - 1, by omega⟩
        have hc : cv (l.drop i) q = if q ≤ (ptAt l (i + 1)).1 then seg (ptAt l i) (ptAt l (i + 1)) q else cv (l.drop (i + 1)) q := by
          rw [pt_drop (show i < l.length by omega), pt_drop (show i + 1 < l.length by omega)]
          simp only [cv]; rw [if_neg (by omega)]
        simp only [F78.l5, res, Int.toNat_natCast, ptAt_get (show i + 1 < l.length by omega), ge_some, w_pred (show 0 < i + 1 by omega) (show i + 1 < 4000000000 by omega), w_succ (show i + 1 < 4000000000 by omega), Nat.add_sub_cancel, ptAt_get (show i < l.length by omega)]
        rw [hc, if_pos (by omega), if_pos (by omega)]
        by_cases c : q ≤ (ptAt l (i + 1)).1
        · rw [if_pos c, if_pos c, if_pos (by omega), if_pos (by omega), between_eq (good_nb hg (by omega)) (by omega) c]
        · rw [if_neg c, if_neg c]
          exact ih n (i + 1) (by omega) (by omega) (by omega)
    exact key (l.length - 1) N 0 (by omega) (by omega) (by omega)
include hN in
theorem fan_along {r : Int} {l : List Sp} (hg : GoodF r l) (r0 : Int) (b1 b2 b : Bool) {q : Int} (h0 : -9223372036854775807 ≤ q) (h1 : q ≤ 9223372036854775807) (k : Int → Int → Option β) : F75.C N r0 b1 b2 l b q k = k (al l b q).1 (al l b q).2 := by
  rw [F75.C_eq]; unfold F75.K al
  cases b
  · simp only [res, Bool.not_false, fan_curve hN hg, Bool.false_eq_true, ↓reduceIte]
  · simp only [res, Bool.not_true, fan_curve hN hg, ↓reduceIte, Int.zero_sub]
    rw [w_id (x := -q) (by omega) (by omega)]
    have := curve_bd hg (-q)
    rw [w_id (by omega) (by omega), w_id (by omega) (by omega)]
include hN in
theorem fan_Sure {r : Int} {l : List Sp} (hg : GoodF r l) (r0 : Int) (b1 b2 : Bool) (s : Int) {q : Int} (h0 : -9223372036854775807 ≤ q) (h1 : q ≤ 9223372036854775807) (k : Int → Int → Option β) : F65.C N r0 b1 b2 l s q k = k (sure l b1 s q).1 (sure l b1 s q).2 := by
  rw [F65.C_eq]; unfold F65.K sure
  simp only [res, fan_along hN hg _ _ _ _ h0 h1]
  by_cases c1 : s = 1
  · simp only [c1, ↓reduceIte]
  by_cases c2 : s = 2
  · simp only [c1, c2, ↓reduceIte]; rfl
  by_cases c3 : s = -1
  · subst c3
    simp only [Int.reduceEq, Int.reduceNeg, ↓reduceIte, mnI, mxI]
    exact congr (congrArg k (by omega)) (by omega)
  · simp only [c1, c2, c3, ↓reduceIte]
theorem floor_eq {a b : Int} (hb : 0 < b) (h0 : -4611686018427387904 ≤ a) (h1 : a ≤ 4611686018427387904) (k : Int → Option β) : F79.C N a b k = k (a / b) := by
  have k1 := Int.ediv_le_ediv hb h0
  have k2 := Int.ediv_le_ediv hb h1
  have bd1 : -4611686018427387904 ≤ -4611686018427387904 / b := by
    have := Int.le_ediv_of_mul_le (a := -4611686018427387904) (b := -4611686018427387904) hb (by
      have : (-4611686018427387904 : Int) * b ≤ -4611686018427387904 * 1 := Int.mul_le_mul_of_nonpos_left (by omega) (by omega)
      omega)
    exact this
  have bd2 : (4611686018427387904 : Int) / b ≤ 4611686018427387904 := Int.ediv_le_self _ (by omega)
  have hd := Int.tdiv_eq_ediv (a := a) (b := b)
  have hm := Int.tmod_eq_emod (a := a) (b := b)
  have e2 := Int.emod_nonneg a (show b ≠ 0 by omega)
  have e3 := Int.emod_lt_of_pos a hb
  have hdv : b ∣ a ↔ a % b = 0 := Int.dvd_iff_emod_eq_zero
  have hs : b.sign = 1 := Int.sign_eq_one_of_pos hb
  have hn : (b.natAbs : Int) = b := by omega
  rw [F79.C_eq]; unfold F79.K
  simp only [res]
  rw [if_neg (by omega), if_neg (by omega), hd, hm, hs]
  by_cases c : 0 ≤ a ∨ b ∣ a
  · rw [if_pos c, if_pos c, if_neg (by omega), w_id (by omega) (by omega), Int.add_zero]
  · rw [if_neg c, if_neg c, hn]
    have : a % b ≠ 0 := fun h => c (.inr (hdv.mpr h))
    rw [if_pos (by omega), w_id (x := a / b + 1) (by omega) (by omega), w_id (by omega) (by omega)]
    exact congrArg k (by omega)
theorem ceil_eq {a b : Int} (hb : 0 < b) (h0 : -4611686018427387904 ≤ a) (h1 : a ≤ 4611686018427387904) (k : Int → Option β) : F80.C N a b k = k (-((-a) / b)) := by
  rw [F80.C_eq]; unfold F80.K
  rw [w_id (by omega) (by omega), Int.zero_sub, floor_eq hb (by omega) (by omega)]
  have k1 := Int.ediv_le_ediv hb (show -4611686018427387904 ≤ -a by omega)
  have k2 := Int.ediv_le_ediv hb (show -a ≤ 4611686018427387904 by omega)
  have bd1 : -4611686018427387904 ≤ -4611686018427387904 / b := by
    have := Int.le_ediv_of_mul_le (a := -4611686018427387904) (b := -4611686018427387904) hb (by
      have : (-4611686018427387904 : Int) * b ≤ -4611686018427387904 * 1 := Int.mul_le_mul_of_nonpos_left (by omega) (by omega)
      omega)
    exact this
  have bd2 : (4611686018427387904 : Int) / b ≤ 4611686018427387904 := Int.ediv_le_self _ (by omega)
  rw [Int.zero_sub, w_id (by omega) (by omega)]
include hN in
theorem ref07_Inner {r : Int} {l : List Sp} (hg : GoodF r l) (r0 : Int) (b1 b2 : Bool) (q : Int) (k : Int → Int → Option β) : F76.C N r0 b1 b2 l q k = k (cv l q).1 (cv l q).2 := by
  have h1 := hg.ne; have h8 := hg.le
  have g0 : l[0]? = some (ptAt l 0) := ptAt_get (by omega)
  rw [F76.C_eq]; unfold F76.K
  simp only [g0, ge_some, res, w_pred (show 0 < l.length by omega) (show l.length < 4000000000 by omega), Int.toNat_natCast, ptAt_get (show l.length - 1 < l.length by omega)]
  by_cases c : q ≤ (ptAt l 0).1
  · have : cv l q = ((ptAt l 0).2, (ptAt l 0).2) := by
      show cv (l.drop 0) q = _
      rw [pt_drop (show 0 < l.length by omega)]
      by_cases h : 1 < l.length
      · rw [pt_drop h]; simp only [cv]; rw [if_pos c]
      · rw [List.drop_of_length_le (by omega)]; rfl
    rw [if_pos c, this]
  · by_cases c2 : q ≥ (ptAt l (l.length - 1)).1
    · rw [if_neg c, if_pos (by omega), if_pos c2, if_pos (by omega), if_pos (by omega), cv_last hg c2]
    · rw [if_neg c, if_pos (by omega), if_neg c2]
      have hl : q < (ptAt l (l.length - 1)).1 := by omega
      have key : ∀ d n i, i + 1 + d = l.length → d < n → (ptAt l i).1 ≤ q → ∃ j : Nat, j + 1 < l.length ∧ (ptAt l j).1 ≤ q ∧ q ≤ (ptAt l (j + 1)).1 ∧ ∀ K : Int → Int → Bool → Bool → List Sp → Int → Int → Int → Bool → Option β,
          F76.l7 N n q r0 b1 b2 l 0 0 (i : Int) K = K q r0 b1 b2 l 0 0 (j : Int) false := by
        intro d
        induction d with
        | zero => intro n i h _ hq; rw [show l.length - 1 = i by omega] at hl; omega
        | succ d ih =>
          intro n i h hn hq
          obtain ⟨n, rfl⟩ : ∃ m, n = m + 1 := ⟨n - 1, by omega⟩
          by_cases c : (ptAt l (i + 1)).1 ≤ q
          · obtain ⟨j, j1, j2, j3, j4⟩ := ih n (i + 1) (by omega) (by omega) c
            refine ⟨j, j1, j2, j3, fun K => ?_⟩
            simp only [F76.l7, res, w_succ (show i < 4000000000 by omega), Int.toNat_natCast, ptAt_get (show i + 1 < l.length by omega), ge_some]
            rw [if_pos (by omega), if_pos c]; exact j4 K
          · refine ⟨i, by omega, hq, by omega, fun K => ?_⟩
            simp only [F76.l7, res, w_succ (show i < 4000000000 by omega), Int.toNat_natCast, ptAt_get (show i + 1 < l.length by omega), ge_some]
            rw [if_pos (by omega), if_neg c, decide_eq_false c]
      obtain ⟨i, hi, hq, hq2, e⟩ := key (l.length - 1) N 0 (by omega) (by omega) (by omega)
      refine (e _).trans ?_
      simp only [res, w_succ (show i < 4000000000 by omega), Int.toNat_natCast, ptAt_get (show i + 1 < l.length by omega), ptAt_get (show i < l.length by omega), ge_some]
      rw [if_pos (by omega), if_pos (by omega)]
      have hn := good_nb hg hi
      have g1 := hn.a0; have g2 := hn.b0; have g3 := hn.lt; have g4 := hn.b1; have g5 := hn.ge; have g6 := hn.a1
      obtain ⟨p1, p2, p3, p4⟩ := seg_bd hn hq hq2
      have hin := seg_in hn hq hq2
      have em : ((ptAt l (i + 1)).2 - (ptAt l i).2) * (q - (ptAt l i).1) = -(((ptAt l i).2 - (ptAt l (i + 1)).2) * (q - (ptAt l i).1)) := by
        rw [← Int.neg_mul]; congr 1; omega
      rw [w_id (x := (ptAt l (i + 1)).2 - (ptAt l i).2) (by omega) (by omega), w_id (x := q - (ptAt l i).1) (by omega) (by omega), w_id (x := (ptAt l (i + 1)).1 - (ptAt l i).1) (by omega) (by omega)]
      rw [em, w_id (by omega) (by omega), floor_eq (by omega) (by omega) (by omega), ceil_eq (by omega) (by omega) (by omega), Int.neg_neg]
      have s1 := seg_lo hn q
      have s2 := seg_hi (ptAt l i) (ptAt l (i + 1)) q
      rw [cv_between hg hi hq hq2, w_id (by omega) (by omega), w_id (by omega) (by omega), ← s1, ← Int.sub_eq_add_neg, ← s2]
include hN in
theorem ref07_Along {r : Int} {l : List Sp} (hg : GoodF r l) (r0 : Int) (b1 b2 b : Bool) {q : Int} (h0 : -9223372036854775807 ≤ q) (h1 : q ≤ 9223372036854775807) (k : Int → Int → Option β) : F66.C N r0 b1 b2 l b q k = k (al l b q).1 (al l b q).2 := by
  rw [F66.C_eq]; unfold F66.K al
  cases b
  · simp only [res, ref07_Inner hN hg, Bool.false_eq_true, ↓reduceIte]
  · simp only [res, ref07_Inner hN hg, ↓reduceIte, Int.zero_sub]
    rw [w_id (x := -q) (by omega) (by omega)]
    have := curve_bd hg (-q)
    rw [w_id (by omega) (by omega), w_id (by omega) (by omega)]
include hN in
theorem ref07_State {r : Int} {l : List Sp} (hg : GoodF r l) (r0 : Int) (b1 b2 : Bool) {s : Int} (hs : -1 ≤ s) (hs2 : s ≤ 2) {q : Int} (h0 : -9223372036854775807 ≤ q) (h1 : q ≤ 9223372036854775807) (k : Int → Int → Option β) : F53.C N r0 b1 b2 l s q k = k (sure l b1 s q).1 (sure l b1 s q).2 := by
  rw [F53.C_eq]; unfold F53.K sure
  simp only [res, ref07_Along hN hg _ _ _ _ h0 h1]
  by_cases c0 : s = 0
  · subst c0; rfl
  by_cases c1 : s = 1
  · subst c1; rfl
  by_cases c2 : s = 2
  · subst c2; rfl
  obtain rfl : s = -1 := by omega
  simp only [mnI, mxI, Int.reduceEq, Int.reduceNeg, ↓reduceIte]
  congr 1 <;> omega
end Go.Vi.B
/- Right airs, and the difference of pressure of a road, told plainly. -/
namespace Go.Vi.A
set_option linter.unusedVariables false
set_option linter.unusedSimpArgs false
abbrev Pi := Ro × (Int × (List (Fa × Int)))
/-! ### Sums of spans -/
def sumS : List Sp → Sp
  | [] => (0, 0)
  | x :: r => (x.1 + (sumS r).1, x.2 + (sumS r).2)
theorem sumS_append : ∀ (a b : List Sp), sumS (a ++ b) = ((sumS a).1 + (sumS b).1, (sumS a).2 + (sumS b).2)
  | [], b => by simp [sumS]
  | x :: r, b => by simp only [List.cons_append, sumS, sumS_append r b]; exact Prod.ext (by simp only; omega) (by simp only; omega)
theorem sumS_bd {lo hi : Int} (h0 : lo ≤ 0) (h1 : 0 ≤ hi) : ∀ (l : List Sp) (n : Nat), (∀ x ∈ l, lo ≤ x.1 ∧ x.1 ≤ x.2 ∧ x.2 ≤ hi) → l.length ≤ n → lo * n ≤ (sumS l).1 ∧ (sumS l).1 ≤ (sumS l).2 ∧ (sumS l).2 ≤ hi * n
  | [], n, _, _ => by
    have a := Int.mul_nonneg h1 (show (0 : Int) ≤ n by omega)
    have b := Int.mul_nonneg (show (0 : Int) ≤ -lo by omega) (show (0 : Int) ≤ n by omega)
    rw [Int.neg_mul] at b
    simp only [sumS]; omega
  | x :: r, 0, _, hl => by simp at hl
  | x :: r, n + 1, h, hl => by
    have ih := sumS_bd h0 h1 r n (fun y hy => h y (List.mem_cons_of_mem _ hy)) (by simp at hl; omega)
    have hx := h x List.mem_cons_self
    have e1 : lo * ((n + 1 : Nat) : Int) = lo * n + lo := by rw [Int.natCast_add, Int.mul_add]; simp
    have e2 : hi * ((n + 1 : Nat) : Int) = hi * n + hi := by rw [Int.natCast_add, Int.mul_add]; simp
    rw [e1, e2]
    simp only [sumS]; omega
theorem take_snoc {α : Type} {l : List α} {j : Nat} {x : α} (h : l[j]? = some x) : l.take (j + 1) = l.take j ++ [x] := by
  rw [List.take_add_one, h]; rfl
theorem zip_get {α γ : Type} {a : List α} {b : List γ} {j : Nat} {x : α} {y : γ} (h1 : a[j]? = some x) (h2 : b[j]? = some y) : (a.zip b)[j]? = some (x, y) := by
  rw [List.getElem?_zip_eq_some]; exact ⟨h1, h2⟩
/-! ### Doors -/
def lmin (l : List Int) : Int := l.foldl min (l.getD 0 0)
def lmax (l : List Int) : Int := l.foldl max (l.getD 0 0)
/-- What a door adds. -/
def dRest (l : List Int) (s : Int) : Sp :=
  if (l.length : Int) = 0 then (0, 0) else if s < -1 then (0, 0) else if s ≥ (l.length : Int) then (0, 0) else if s = -1 then (lmin l, lmax l) else (l.getD s.toNat 0, l.getD s.toNat 0)
theorem foldl_min_le : ∀ (l : List Int) (m : Int), l.foldl min m ≤ m ∧ ∀ x ∈ l, l.foldl min m ≤ x
  | [], m => ⟨Int.le_refl _, fun x hx => by cases hx⟩
  | a :: r, m => by
    obtain ⟨h1, h2⟩ := foldl_min_le r (min m a)
    simp only [List.foldl_cons]
    refine ⟨by omega, fun x hx => ?_⟩
    rcases List.mem_cons.1 hx with rfl | hx
    · omega
    · exact h2 x hx
theorem le_foldl_max : ∀ (l : List Int) (m : Int), m ≤ l.foldl max m ∧ ∀ x ∈ l, x ≤ l.foldl max m
  | [], m => ⟨Int.le_refl _, fun x hx => by cases hx⟩
  | a :: r, m => by
    obtain ⟨h1, h2⟩ := le_foldl_max r (max m a)
    simp only [List.foldl_cons]
    refine ⟨by omega, fun x hx => ?_⟩
    rcases List.mem_cons.1 hx with rfl | hx
    · omega
    · exact h2 x hx
theorem foldl_min_ge {c : Int} : ∀ (l : List Int) (m : Int), c ≤ m → (∀ x ∈ l, c ≤ x) → c ≤ l.foldl min m
  | [], m, h, _ => h
  | a :: r, m, h, g => foldl_min_ge r _ (by have := g a List.mem_cons_self; omega) fun x hx => g x (List.mem_cons_of_mem _ hx)
theorem foldl_max_le {c : Int} : ∀ (l : List Int) (m : Int), m ≤ c → (∀ x ∈ l, x ≤ c) → l.foldl max m ≤ c
  | [], m, h, _ => h
  | a :: r, m, h, g => foldl_max_le r _ (by have := g a List.mem_cons_self; omega) fun x hx => g x (List.mem_cons_of_mem _ hx)
theorem dRest_bd {l : List Int} (h : ∀ x ∈ l, 0 ≤ x ∧ x ≤ 262144) (s : Int) : 0 ≤ (dRest l s).1 ∧ (dRest l s).1 ≤ (dRest l s).2 ∧ (dRest l s).2 ≤ 262144 := by
  unfold dRest
  split
  · simp
  split
  · simp
  split
  · simp
  have hm : l.getD 0 0 ∈ l := by
    rw [List.getD_eq_getElem?_getD, List.getElem?_eq_getElem (by omega)]; exact List.getElem_mem _
  split
  · have a := foldl_min_ge l _ (h _ hm).1 (fun x hx => (h x hx).1)
    have b := foldl_max_le l _ (h _ hm).2 (fun x hx => (h x hx).2)
    have c := (foldl_min_le l (l.getD 0 0)).1
    have d := (le_foldl_max l (l.getD 0 0)).1
    simp only [lmin, lmax]; omega
  · have hs : l.getD s.toNat 0 ∈ l := by
      rw [List.getD_eq_getElem?_getD, List.getElem?_eq_getElem (by omega)]; exact List.getElem_mem _
    have := h _ hs
    simp only; omega
/-- An unknown state of a door has all that the known ones have. -/
theorem dRest_unknown {l : List Int} {s : Int} (h0 : 0 ≤ s) (h1 : s < l.length) : (dRest l (-1)).1 ≤ (dRest l s).1 ∧ (dRest l s).2 ≤ (dRest l (-1)).2 := by
  have hs : l.getD s.toNat 0 ∈ l := by
    rw [List.getD_eq_getElem?_getD, List.getElem?_eq_getElem (by omega)]; exact List.getElem_mem _
  have a := (foldl_min_le l (l.getD 0 0)).2 _ hs
  have b := (le_foldl_max l (l.getD 0 0)).2 _ hs
  have e1 : dRest l (-1) = (lmin l, lmax l) := by unfold dRest; rw [if_neg (by omega), if_neg (by omega), if_neg (by omega), if_pos rfl]
  have e2 : dRest l s = (l.getD s.toNat 0, l.getD s.toNat 0) := by unfold dRest; rw [if_neg (by omega), if_neg (by omega), if_neg (by omega), if_neg (by omega)]
  rw [e1, e2]; simp only [lmin, lmax]; exact ⟨a, b⟩
abbrev DS := List (Do × Int)
abbrev FS := List (Fa × Int)
/-- What the doors of a road add. -/
def dsum (z : DS) (i : Int) : Sp := sumS ((z.filter fun x => decide (x.1.1 = i)).map fun x => dRest x.1.2.2 x.2)
def bsum (z : FS) (q : Int) : Sp := sumS (z.map fun x => sure x.1.2.2.2 x.1.2.1 x.2 q)
/-- What the fans of a road give. -/
def fsum (z : FS) (i q : Int) : Sp := bsum (z.filter fun x => decide (x.1.1 = i)) q
/-- The fans of a road that turn. -/
def blow (z : FS) (i : Int) : FS := z.filter fun x => x.2 != 0 && decide (x.1.1 = i)
theorem bsum_append (a b : FS) (q : Int) : bsum (a ++ b) q = ((bsum a q).1 + (bsum b q).1, (bsum a q).2 + (bsum b q).2) := by unfold bsum; rw [List.map_append, sumS_append]
theorem bsum_take {z : FS} {j : Nat} {x : Fa × Int} (h : z[j]? = some x) (q : Int) :
    bsum (z.take (j + 1)) q = ((bsum (z.take j) q).1 + (sure x.1.2.2.2 x.1.2.1 x.2 q).1, (bsum (z.take j) q).2 + (sure x.1.2.2.2 x.1.2.1 x.2 q).2) := by
  rw [take_snoc h, bsum_append]; simp [bsum, sumS]
theorem fsum_take {z : FS} {j : Nat} {x : Fa × Int} (h : z[j]? = some x) (i q : Int) :
    fsum (z.take (j + 1)) i q = if x.1.1 = i then ((fsum (z.take j) i q).1 + (sure x.1.2.2.2 x.1.2.1 x.2 q).1, (fsum (z.take j) i q).2 + (sure x.1.2.2.2 x.1.2.1 x.2 q).2) else fsum (z.take j) i q := by
  unfold fsum
  rw [take_snoc h, List.filter_append, bsum_append]
  by_cases c : x.1.1 = i
  · simp [c, bsum, sumS]
  · simp [c, bsum, sumS]
theorem dsum_take {z : DS} {j : Nat} {x : Do × Int} (h : z[j]? = some x) (i : Int) :
    dsum (z.take (j + 1)) i = if x.1.1 = i then ((dsum (z.take j) i).1 + (dRest x.1.2.2 x.2).1, (dsum (z.take j) i).2 + (dRest x.1.2.2 x.2).2) else dsum (z.take j) i := by
  unfold dsum
  rw [take_snoc h, List.filter_append, List.map_append, sumS_append]
  by_cases c : x.1.1 = i
  · simp [c, sumS]
  · simp [c, sumS]
theorem sure_zero (l : List Sp) (b : Bool) (q : Int) : sure l b 0 q = (0, 0) := rfl
theorem bsum_blow (z : FS) (i q : Int) : bsum (blow z i) q = fsum z i q := by
  unfold fsum blow
  induction z with
  | nil => rfl
  | cons x r ih =>
    by_cases c : x.1.1 = i
    · by_cases d : x.2 = 0
      · simp only [List.filter_cons, d, c, bne_self_eq_false, Bool.false_and, Bool.false_eq_true, if_false, decide_true, if_true]
        rw [ih]; simp only [bsum, List.map_cons, sumS, d, sure_zero, Int.zero_add]
      · have e : (x.2 != 0) = true := by simpa using d
        simp only [List.filter_cons, e, c, Bool.true_and, decide_true, if_true]
        simp only [bsum, List.map_cons, sumS] at ih ⊢
        rw [ih]
    · simp only [List.filter_cons, c, decide_false, Bool.and_false, Bool.false_eq_true, if_false]
      exact ih
/-! ### Right airs -/
structure DoorOk (n : Nat) (d : Do) : Prop where
  road : 0 ≤ d.1 ∧ d.1 < n
  two : 2 ≤ d.2.2.length
  six : d.2.2.length ≤ 6
  rng : ∀ x ∈ d.2.2, 0 ≤ x ∧ x ≤ 262144
  fall : ∀ j x, d.2.2[j]? = some x → 0 < j → x < d.2.2.getD (j - 1) 0
structure RoadOk (n : Nat) (r : Ro) : Prop where
  frm : 0 ≤ r.1 ∧ r.1 < n
  to : 0 ≤ r.2.1 ∧ r.2.1 < n
  ne : r.1 ≠ r.2.1
  rest : 1 ≤ r.2.2.2.2.2.2.1.1 ∧ r.2.2.2.2.2.2.1.1 ≤ r.2.2.2.2.2.2.1.2 ∧ r.2.2.2.2.2.2.1.2 ≤ 262144
  lift : -2199023255552 ≤ r.2.2.2.2.2.2.2.1 ∧ r.2.2.2.2.2.2.2.1 ≤ r.2.2.2.2.2.2.2.2 ∧ r.2.2.2.2.2.2.2.2 ≤ 2199023255552
structure AirOk (pl : List Pl) (ro : List Ro) (fa : List Fa) (dr : List Do) : Prop where
  npl : pl.length ≤ 64
  nro : ro.length ≤ 128
  nfa : fa.length ≤ 8
  ndr : dr.length ≤ 16
  road : ∀ r ∈ ro, RoadOk pl.length r
  fan : ∀ f ∈ fa, GoodF f.1 f.2.2.2 ∧ f.1 < (ro.length : Int)
  door : ∀ d ∈ dr, DoorOk ro.length d
structure SetOk (fa : List Fa) (dr : List Do) (sf sd : List Int) : Prop where
  lf : sf.length = fa.length
  ld : sd.length = dr.length
  f : ∀ x ∈ sf, -1 ≤ x ∧ x ≤ 2
  d : ∀ (j : Nat) d x, dr[j]? = some d → sd[j]? = some x → -1 ≤ x ∧ x < (d.2.2.length : Int)
theorem all_get {α : Type} {p : α → Prop} {l : List α} (h : ∀ (j : Nat) (x : α), l[j]? = some x → p x) : ∀ x ∈ l, p x := fun x hx => by
  obtain ⟨j, hj⟩ := List.mem_iff_getElem?.1 hx
  exact h j x hj
theorem roadE_zero {n i : Nat} {r : Ro} (h : roadE n i r = 0) : RoadOk n r := by
  unfold roadE at h
  repeat' split at h
  all_goals first | (exact absurd h (by decide)) | skip
  exact ⟨by omega, by omega, by omega, by assumption, by assumption⟩
theorem doorE_zero {n i : Nat} {l : List Do} {d : Do} (h : doorE l i d = 0) (hn : doorInE n i d = 0) : DoorOk n d := by
  unfold doorE at h
  split at h
  · exact absurd h (by decide)
  split at h
  · exact absurd h (by decide)
  split at h
  · exact absurd h (by decide)
  rw [thn_zero, thn_zero, ferr_zero, ferr_zero] at h
  unfold doorInE at hn
  split at hn
  · exact absurd hn (by decide)
  refine ⟨by omega, by omega, by omega, all_get fun j x hx => ?_, fun j x hx hj => ?_⟩
  · have := h.1 j x hx
    unfold restE at this
    repeat' split at this
    all_goals first | (exact absurd this (by decide)) | omega
  · have := h.2.1 j x hx
    unfold fallE at this
    rw [Nat.zero_add] at this
    repeat' split at this
    all_goals first | (exact absurd this (by decide)) | omega
theorem AirOk.of {pl : List Pl} {ro : List Ro} {fa : List Fa} {dr : List Do} (h : airE pl ro fa dr = 0) : AirOk pl ro fa dr := by
  unfold airE at h
  rw [thn_zero] at h
  obtain ⟨h1, h2⟩ := h
  unfold mineE at h1
  split at h1
  · exact absurd h1 (by decide)
  split at h1
  · exact absurd h1 (by decide)
  rw [thn_zero, ferr_zero, ferr_zero] at h1
  split at h2
  · exact absurd h2 (by decide)
  rw [thn_zero, thn_zero, ferr_zero] at h2
  obtain ⟨h2, h3, h4⟩ := h2
  unfold doorsE at h3
  split at h3
  · exact absurd h3 (by decide)
  rw [ferr_zero] at h3
  rw [ferr_zero] at h4
  refine ⟨by omega, by omega, by omega, by omega, all_get fun j r hr => roadE_zero (h1.2 j r hr), all_get fun j f hf => ?_, all_get fun j d hd => doorE_zero (h3 j d hd) (h4 j d hd)⟩
  have := h2 j f hf
  unfold fanInE at this
  rw [thn_zero] at this
  refine ⟨good_iff.1 this.1, ?_⟩
  have := this.2
  split at this
  · exact absurd this (by decide)
  · omega
theorem SetOk.of {fa : List Fa} {dr : List Do} {sf sd : List Int} (h : fitE fa dr sf sd = 0) : SetOk fa dr sf sd := by
  unfold fitE at h
  split at h
  · split at h
    · rw [thn_zero, ferr_zero, ferr_zero] at h
      refine ⟨by omega, by omega, all_get fun j x hx => ?_, fun j d x hd hx => ?_⟩
      · have := h.1 j x hx
        unfold stF at this
        repeat' split at this
        all_goals first | (exact absurd this (by decide)) | omega
      · have := h.2 j x hx
        unfold stD at this
        rw [Nat.zero_add, getD_eq hd] at this
        repeat' split at this
        all_goals first | (exact absurd this (by decide)) | omega
    · exact absurd h (by decide)
  · exact absurd h (by decide)
theorem dsum_bd {pl : List Pl} {ro : List Ro} {fa : List Fa} {dr : List Do} (h : AirOk pl ro fa dr) (sd : List Int) (j : Nat) (i : Int) :
    0 ≤ (dsum ((dr.zip sd).take j) i).1 ∧ (dsum ((dr.zip sd).take j) i).1 ≤ (dsum ((dr.zip sd).take j) i).2 ∧ (dsum ((dr.zip sd).take j) i).2 ≤ 4194304 := by
  have := sumS_bd (lo := 0) (hi := 262144) (by omega) (by omega) ((((dr.zip sd).take j).filter fun x => decide (x.1.1 = i)).map fun x => dRest x.1.2.2 x.2) 16 (fun y hy => by
    obtain ⟨x, hx, rfl⟩ := List.mem_map.1 hy
    have hx := List.mem_of_mem_take (List.mem_filter.1 hx).1
    have hx := (List.of_mem_zip hx).1
    exact dRest_bd (h.door _ hx).rng _) (by
    have := List.length_filter_le (fun x : Do × Int => decide (x.1.1 = i)) ((dr.zip sd).take j)
    have a := h.ndr
    simp only [List.length_map, List.length_take, List.length_zip] at this ⊢; omega)
  unfold dsum; omega
theorem fs_bd {z : FS} {n : Nat} (hz : ∀ x ∈ z, GoodF x.1.1 x.1.2.2.2) (hn : z.length ≤ n) (q : Int) : -2199023255552 * n ≤ (bsum z q).1 ∧ (bsum z q).1 ≤ (bsum z q).2 ∧ (bsum z q).2 ≤ 2199023255552 * n := by
  exact sumS_bd (lo := -2199023255552) (hi := 2199023255552) (by omega) (by omega) (z.map fun x => sure x.1.2.2.2 x.1.2.1 x.2 q) n (fun y hy => by
    obtain ⟨x, hx, rfl⟩ := List.mem_map.1 hy
    exact sure_bd (hz x hx) _ _ _) (by simpa using hn)
theorem fsum_bd {pl : List Pl} {ro : List Ro} {fa : List Fa} {dr : List Do} (h : AirOk pl ro fa dr) (sf : List Int) (j : Nat) (i q : Int) :
    -17592186044416 ≤ (fsum ((fa.zip sf).take j) i q).1 ∧ (fsum ((fa.zip sf).take j) i q).1 ≤ (fsum ((fa.zip sf).take j) i q).2 ∧ (fsum ((fa.zip sf).take j) i q).2 ≤ 17592186044416 := by
  have := fs_bd (z := ((fa.zip sf).take j).filter fun x => decide (x.1.1 = i)) (n := 8) (fun x hx => by
    have hx := List.mem_of_mem_take (List.mem_filter.1 hx).1
    have hx := (List.of_mem_zip hx).1
    exact (h.fan _ hx).1) (by
    have := List.length_filter_le (fun x : Fa × Int => decide (x.1.1 = i)) ((fa.zip sf).take j)
    have a := h.nfa
    simp only [List.length_take, List.length_zip] at this ⊢; omega) q
  unfold fsum; omega
/-! ### The difference of pressure -/
def drp (rest lift fs : Sp) (q : Int) : Sp :=
  if q < 0 then (-(rest.2 * (q * q)) - lift.2 - fs.2, -(rest.1 * (q * q)) - lift.1 - fs.1) else (rest.1 * (q * q) - lift.2 - fs.2, rest.2 * (q * q) - lift.1 - fs.1)
/-- A road's resistance with its doors. -/
def rOf (dz : DS) (i : Int) (r : Ro) : Sp := (r.2.2.2.2.2.2.1.1 + (dsum dz i).1, r.2.2.2.2.2.2.1.2 + (dsum dz i).2)
/-- The difference of pressure of an open road. -/
def drop (dz : DS) (fz : FS) (i : Int) (r : Ro) (q : Int) : Sp := drp (rOf dz i r) r.2.2.2.2.2.2.2 (fsum fz i q) q
def pOf (dz : DS) (fz : FS) (i : Int) (r : Ro) : Pi := ((r.1, (r.2.1, (r.2.2.1, (r.2.2.2.1, (r.2.2.2.2.1, (r.2.2.2.2.2.1, (rOf dz i r, r.2.2.2.2.2.2.2))))))), (i, blow fz i))
def pdrop (p : Pi) (q : Int) : Sp := drp p.1.2.2.2.2.2.2.1 p.1.2.2.2.2.2.2.2 (bsum p.2.2 q) q
theorem pdrop_pOf (dz : DS) (fz : FS) (i : Int) (r : Ro) (q : Int) : pdrop (pOf dz fz i r) q = drop dz fz i r q := by
  unfold pdrop pOf drop; simp only [bsum_blow]
/-! ### Searches -/
/-- The greatest number at which a test holds that then fails, between two numbers. -/
def bsl (g : Int → Bool) : Nat → Int → Int → Int
  | 0, lo, _ => lo
  | n + 1, lo, hi => if lo < hi then if g (lo + (hi - lo + 1) / 2) then bsl g n (lo + (hi - lo + 1) / 2) hi else bsl g n lo (lo + (hi - lo + 1) / 2 - 1) else lo
/-- The least number at which a test holds that goes on holding, between two numbers. -/
def bsh (g : Int → Bool) : Nat → Int → Int → Int
  | 0, lo, _ => lo
  | n + 1, lo, hi => if lo < hi then if g (lo + (hi - lo) / 2) then bsh g n lo (lo + (hi - lo) / 2) else bsh g n (lo + (hi - lo) / 2 + 1) hi else lo
theorem bsl_more (g : Int → Bool) : ∀ n lo hi, hi - lo < 2 ^ n → ∀ m, bsl g (n + m) lo hi = bsl g n lo hi
  | 0, lo, hi, h, m => by
    have : ¬ lo < hi := by simp at h; omega
    cases m with
    | zero => rfl
    | succ m => rw [Nat.zero_add]; simp only [bsl]; rw [if_neg this]
  | n + 1, lo, hi, h, m => by
    rw [show n + 1 + m = (n + m) + 1 by omega]
    rw [Int.pow_succ] at h
    simp only [bsl]
    split
    · rw [bsl_more g n _ hi (by omega) m, bsl_more g n lo _ (by omega) m]
    · rfl
theorem bsh_more (g : Int → Bool) : ∀ n lo hi, hi - lo < 2 ^ n → ∀ m, bsh g (n + m) lo hi = bsh g n lo hi
  | 0, lo, hi, h, m => by
    have : ¬ lo < hi := by simp at h; omega
    cases m with
    | zero => rfl
    | succ m => rw [Nat.zero_add]; simp only [bsh]; rw [if_neg this]
  | n + 1, lo, hi, h, m => by
    rw [show n + 1 + m = (n + m) + 1 by omega]
    rw [Int.pow_succ] at h
    simp only [bsh]
    split
    · rw [bsh_more g n lo _ (by omega) m, bsh_more g n _ hi (by omega) m]
    · rfl
theorem lsl {β : Type} {L : Nat → Int → Int → Option β} {k : Int → Option β} {a b : Int} (g : Int → Bool) (hend : ∀ n lo hi, ¬ lo < hi → L (n + 1) lo hi = k lo)
    (hstep : ∀ n lo hi, a ≤ lo → hi ≤ b → lo < hi → L (n + 1) lo hi = if g (lo + (hi - lo + 1) / 2) then L n (lo + (hi - lo + 1) / 2) hi else L n lo (lo + (hi - lo + 1) / 2 - 1)) :
    ∀ n lo hi, a ≤ lo → hi ≤ b → hi - lo < 2 ^ n → L (n + 1) lo hi = k (bsl g n lo hi)
  | 0, lo, hi, _, _, h => by
    have : ¬ lo < hi := by simp at h; omega
    exact hend 0 lo hi this
  | n + 1, lo, hi, h0, h1, h => by
    rw [Int.pow_succ] at h
    simp only [bsl]
    by_cases c : lo < hi
    · rw [hstep (n + 1) lo hi h0 h1 c, if_pos c]
      split
      · exact lsl g hend hstep n _ hi (by omega) h1 (by omega)
      · exact lsl g hend hstep n lo _ h0 (by omega) (by omega)
    · rw [hend (n + 1) lo hi c, if_neg c]
theorem lsh {β : Type} {L : Nat → Int → Int → Option β} {k : Int → Option β} {a b : Int} (g : Int → Bool) (hend : ∀ n lo hi, ¬ lo < hi → L (n + 1) lo hi = k lo)
    (hstep : ∀ n lo hi, a ≤ lo → hi ≤ b → lo < hi → L (n + 1) lo hi = if g (lo + (hi - lo) / 2) then L n lo (lo + (hi - lo) / 2) else L n (lo + (hi - lo) / 2 + 1) hi) :
    ∀ n lo hi, a ≤ lo → hi ≤ b → hi - lo < 2 ^ n → L (n + 1) lo hi = k (bsh g n lo hi)
  | 0, lo, hi, _, _, h => by
    have : ¬ lo < hi := by simp at h; omega
    exact hend 0 lo hi this
  | n + 1, lo, hi, h0, h1, h => by
    rw [Int.pow_succ] at h
    simp only [bsh]
    by_cases c : lo < hi
    · rw [hstep (n + 1) lo hi h0 h1 c, if_pos c]
      split
      · exact lsh g hend hstep n lo _ h0 (by omega) (by omega)
      · exact lsh g hend hstep n _ hi (by omega) h1 (by omega)
    · rw [hend (n + 1) lo hi c, if_neg c]
/-- The least and the greatest flow at a difference of pressure. -/
def fLow (f : Int → Sp) (p : Int) : Int := bsl (fun q => decide ((f q).2 ≤ p)) 22 (-1048577) 1048576
def fHigh (f : Int → Sp) (p : Int) : Int := bsh (fun q => decide ((f q).1 ≥ p)) 22 (-1048576) 1048577
end Go.Vi.A
/- minecontrol/minecontrolref08.Rest -/
namespace Go.Vi.B
open Go.Proofs
set_option linter.unusedVariables false
set_option maxRecDepth 100000
abbrev F52.i : Sh := [(0, .agg [.i, .i, .lst .frz 3 .i]), (2, .one .i)]
abbrev F52.o0 : Sh := [(0, .agg [.i, .i])]
noncomputable def F52.l7 {β : Type} (N : Nat) : Nat → Int → Int → (List Int) → Int → Int → Int → Int → Int → (Int → Int → List Int → Int → Int → Int → Int → Int → Bool → Option β) → Option β
 | 0, _, _, _, _, _, _, _, _, _ => none
 | n + 1, v0, v1, v2, v3, v4, v5, v6, v7, k0 =>
  bl (v7 < (v2.length : Int)) (k0 v0 v1 v2 v3 v4 v5 v6 v7 (decide (v7 < (v2.length : Int)))) <|
  ck (0 ≤ v7) <|
  ge (v2[v7.toNat]?) fun x1 =>
  ck (0 ≤ v7) <|
  ge (v2[v7.toNat]?) fun x2 =>
  F52.l7 N n v0 v1 v2 v3 v4 (if x1 < v5 then x1 else v5) (if x2 > v6 then x2 else v6) (w (v7 + 1)) k0
noncomputable def F52.K {β : Type} (N : Nat) (a0 a1 : Int) (a2 : List Int) (a3 : Int) (k0 : Int → Int → Option β) : Option β :=
 br ((a2.length : Int) = 0) (k0 0 0) <|
 br (a3 < (-1)) (k0 0 0) <|
 br (a3 ≥ (a2.length : Int)) (k0 0 0) <|
 br (a3 ≥ 0) (
  ck (0 ≤ a3) <|
  ge (a2[a3.toNat]?) fun x1 =>
  ck (0 ≤ a3) <|
  ge (a2[a3.toNat]?) fun x2 =>
  k0 x1 x2) <|
 ge (a2[0]?) fun x3 =>
 ge (a2[0]?) fun x4 =>
 F52.l7 N N a0 a1 a2 0 0 x3 x4 0 fun _ _ _ _ _ z10 z11 _ _ =>
 k0 z10 z11
noncomputable def F52.fx : Fx := ⟨Try.prog, [4], [], [(0,[1,2,4]),(1,[1,2,4,21]),(2,[4]),(3,[1,2,4,24]),(4,[4]),(5,[2,4,5]),(6,[2,4,5,6]),(7,[2,4,5,6,49]),(8,[2,4,5,6]),(9,[2,4,5,6]),(10,[4])], 71, []⟩
noncomputable def F52.cs (N : Nat) : List (Ctr Try.prog) := []
abbrev F52.s7 : Sh := [(4, .one (.addr 2 0)), (5, .slot false [.i, .i, .lst .frz 3 .i]), (8, .one (.addr 4 0)), (9, .slot false [.i, .i]), (10, .one (.addr 5 0)), (11, .slot false [.i, .i]), (12, .one .i)]
abbrev F52.e7_0 : Sh := [(4, .one (.addr 2 0)), (5, .slot false [.i, .i, .lst .frz 3 .i]), (8, .one (.addr 4 0)), (9, .slot false [.i, .i]), (10, .one (.addr 5 0)), (11, .slot false [.i, .i]), (12, .one .i), (98, .one .bool)]
noncomputable def F52.X7 (N : Nat) : LpC Try.prog F52.fx := mkL (F52.cs N) [] ((loopsOf (bodyOf Try.f52)).getD 0 .skip) 7 [2,4,5,6] (by kernel_rfl) (by kernel_rfl) (by kernel_rfl) F52.s7 (fun n x k => F52.l7 N n x.1 x.2.1 x.2.2.1 x.2.2.2.1 x.2.2.2.2.1 x.2.2.2.2.2.1 x.2.2.2.2.2.2.1 x.2.2.2.2.2.2.2.1 (fun r0 r1 r2 r3 r4 r5 r6 r7 r8 => k (.exit 0) (Sh.mk F52.e7_0 (r0, r1, r2, r3, r4, r5, r6, r7, r8, ())))) (fun _ _ => rfl) (fun _ _ _ => by kernel_rfl) N
noncomputable def F52.C {β : Type} (N : Nat) := (Sealed fun β => @F52.K β).1 β N
theorem F52.C_eq {β : Type} (N : Nat) : @F52.C β N = @F52.K β N := congrFun (congrFun (Sealed fun β => @F52.K β).2 β) N
noncomputable def F52.X (N : Nat) : Ctr Try.prog := mkF 52 Try.f52 F52.fx (F52.cs N) [F52.X7 N] F52.i (fun x k => F52.C N x.1 x.2.1 x.2.2.1 x.2.2.2.1 (fun r0 r1 => k (Sh.mk F52.o0 (r0, r1, ())))) (by intros; rw [F52.C_eq]; kernel_rfl) (by kernel_rfl) (by kernel_rfl) (by kernel_rfl) (by kernel_rfl) rfl (by kernel_rfl) rfl (by kernel_rfl) (by kernel_rfl) (by kernel_rfl) (.dead _ 52) rfl
end Go.Vi.B
/- slices.Min[[]int,int] -/
namespace Go.Vi.B
open Go.Proofs
set_option linter.unusedVariables false
set_option maxRecDepth 100000
abbrev F72.i : Sh := [(0, .one (.lst .frz 3 .i))]
abbrev F72.o0 : Sh := [(0, .one .i)]
noncomputable def F72.l5 {β : Type} (N : Nat) : Nat → (List Int) → Int → Int → Int → (List Int → Int → Int → Int → Bool → Option β) → Option β
 | 0, _, _, _, _, _ => none
 | n + 1, v0, v1, v2, v3, k0 =>
  bl (v3 < (v0.length : Int)) (k0 v0 v1 v2 v3 (decide (v3 < (v0.length : Int)))) <|
  ck (0 ≤ v3) <|
  ge (v0[v3.toNat]?) fun x1 =>
  F72.l5 N n v0 v1 (if x1 < v2 then x1 else v2) (w (v3 + 1)) k0
noncomputable def F72.K {β : Type} (N : Nat) (a0 : List Int) (k0 : Int → Option β) : Option β :=
 cn ((a0.length : Int) < 1) <|
 ge (a0[0]?) fun x1 =>
 F72.l5 N N a0 0 x1 1 fun _ _ z4 _ _ =>
 k0 z4
noncomputable def F72.fx : Fx := ⟨Try.prog, [], [], [(0,[0,2]),(1,[0,2,7]),(2,[0,2]),(3,[0,2,3]),(4,[0,2,3,4]),(5,[0,2,3,4,15]),(6,[0,2,3,4]),(7,[0,2,3,4]),(8,[2])], 25, []⟩
noncomputable def F72.cs (N : Nat) : List (Ctr Try.prog) := []
abbrev F72.s5 : Sh := [(0, .one (.lst .frz 3 .i)), (4, .one .i), (6, .one .i), (8, .one .i)]
abbrev F72.e5_0 : Sh := [(0, .one (.lst .frz 3 .i)), (4, .one .i), (6, .one .i), (8, .one .i), (30, .one .bool)]
noncomputable def F72.X5 (N : Nat) : LpC Try.prog F72.fx := mkL (F72.cs N) [] ((loopsOf (bodyOf Try.f72)).getD 0 .skip) 5 [0,2,3,4] (by kernel_rfl) (by kernel_rfl) (by kernel_rfl) F72.s5 (fun n x k => F72.l5 N n x.1 x.2.1 x.2.2.1 x.2.2.2.1 (fun r0 r1 r2 r3 r4 => k (.exit 0) (Sh.mk F72.e5_0 (r0, r1, r2, r3, r4, ())))) (fun _ _ => rfl) (fun _ _ _ => by kernel_rfl) N
noncomputable def F72.C {β : Type} (N : Nat) := (Sealed fun β => @F72.K β).1 β N
theorem F72.C_eq {β : Type} (N : Nat) : @F72.C β N = @F72.K β N := congrFun (congrFun (Sealed fun β => @F72.K β).2 β) N
noncomputable def F72.X (N : Nat) : Ctr Try.prog := mkF 72 Try.f72 F72.fx (F72.cs N) [F72.X5 N] F72.i (fun x k => F72.C N x.1 (fun r0 => k (Sh.mk F72.o0 (r0, ())))) (by intros; rw [F72.C_eq]; kernel_rfl) (by kernel_rfl) (by kernel_rfl) (by kernel_rfl) (by kernel_rfl) rfl (by kernel_rfl) rfl (by kernel_rfl) (by kernel_rfl) (by kernel_rfl) (.dead _ 72) rfl
end Go.Vi.B
/- slices.Max[[]int,int] -/
namespace Go.Vi.B
open Go.Proofs
set_option linter.unusedVariables false
set_option maxRecDepth 100000
abbrev F73.i : Sh := [(0, .one (.lst .frz 3 .i))]
abbrev F73.o0 : Sh := [(0, .one .i)]
noncomputable def F73.l5 {β : Type} (N : Nat) : Nat → (List Int) → Int → Int → Int → (List Int → Int → Int → Int → Bool → Option β) → Option β
 | 0, _, _, _, _, _ => none
 | n + 1, v0, v1, v2, v3, k0 =>
  bl (v3 < (v0.length : Int)) (k0 v0 v1 v2 v3 (decide (v3 < (v0.length : Int)))) <|
  ck (0 ≤ v3) <|
  ge (v0[v3.toNat]?) fun x1 =>
  F73.l5 N n v0 v1 (if x1 > v2 then x1 else v2) (w (v3 + 1)) k0
noncomputable def F73.K {β : Type} (N : Nat) (a0 : List Int) (k0 : Int → Option β) : Option β :=
 cn ((a0.length : Int) < 1) <|
 ge (a0[0]?) fun x1 =>
 F73.l5 N N a0 0 x1 1 fun _ _ z4 _ _ =>
 k0 z4
noncomputable def F73.fx : Fx := ⟨Try.prog, [], [], [(0,[0,2]),(1,[0,2,7]),(2,[0,2]),(3,[0,2,3]),(4,[0,2,3,4]),(5,[0,2,3,4,15]),(6,[0,2,3,4]),(7,[0,2,3,4]),(8,[2])], 25, []⟩
noncomputable def F73.cs (N : Nat) : List (Ctr Try.prog) := []
abbrev F73.s5 : Sh := [(0, .one (.lst .frz 3 .i)), (4, .one .i), (6, .one .i), (8, .one .i)]
abbrev F73.e5_0 : Sh := [(0, .one (.lst .frz 3 .i)), (4, .one .i), (6, .one .i), (8, .one .i), (30, .one .bool)]
noncomputable def F73.X5 (N : Nat) : LpC Try.prog F73.fx := mkL (F73.cs N) [] ((loopsOf (bodyOf Try.f73)).getD 0 .skip) 5 [0,2,3,4] (by kernel_rfl) (by kernel_rfl) (by kernel_rfl) F73.s5 (fun n x k => F73.l5 N n x.1 x.2.1 x.2.2.1 x.2.2.2.1 (fun r0 r1 r2 r3 r4 => k (.exit 0) (Sh.mk F73.e5_0 (r0, r1, r2, r3, r4, ())))) (fun _ _ => rfl) (fun _ _ _ => by kernel_rfl) N
noncomputable def F73.C {β : Type} (N : Nat) := (Sealed fun β => @F73.K β).1 β N
theorem F73.C_eq {β : Type} (N : Nat) : @F73.C β N = @F73.K β N := congrFun (congrFun (Sealed fun β => @F73.K β).2 β) N
noncomputable def F73.X (N : Nat) : Ctr Try.prog := mkF 73 Try.f73 F73.fx (F73.cs N) [F73.X5 N] F73.i (fun x k => F73.C N x.1 (fun r0 => k (Sh.mk F73.o0 (r0, ())))) (by intros; rw [F73.C_eq]; kernel_rfl) (by kernel_rfl) (by kernel_rfl) (by kernel_rfl) (by kernel_rfl) rfl (by kernel_rfl) rfl (by kernel_rfl) (by kernel_rfl) (by kernel_rfl) (.dead _ 73) rfl
end Go.Vi.B
/- minecontrol/door.Rest -/
namespace Go.Vi.B
open Go.Proofs
set_option linter.unusedVariables false
set_option maxRecDepth 100000
abbrev F59.i : Sh := [(0, .agg [.i, .i, .lst .frz 3 .i]), (2, .one .i)]
abbrev F59.o0 : Sh := [(0, .agg [.i, .i])]
noncomputable def F59.K {β : Type} (N : Nat) (a0 a1 : Int) (a2 : List Int) (a3 : Int) (k0 : Int → Int → Option β) : Option β :=
 br ((a2.length : Int) = 0) (k0 0 0) <|
 br (a3 < (-1)) (k0 0 0) <|
 br (a3 ≥ (a2.length : Int)) (k0 0 0) <|
 br (a3 = (-1)) (
  F72.C N a2 fun r1 =>
  F73.C N a2 fun r2 =>
  k0 r1 r2) <|
 ck (0 ≤ a3) <|
 ge (a2[a3.toNat]?) fun x3 =>
 ck (0 ≤ a3) <|
 ge (a2[a3.toNat]?) fun x4 =>
 k0 x3 x4
noncomputable def F59.fx : Fx := ⟨Try.prog, [4], [], [(0,[1,2,4]),(1,[1,2,4,5]),(2,[4]),(3,[1,2,4,22]),(4,[4]),(5,[4])], 43, []⟩
noncomputable def F59.cs (N : Nat) : List (Ctr Try.prog) := [F72.X N, F73.X N]
noncomputable def F59.C {β : Type} (N : Nat) := (Sealed fun β => @F59.K β).1 β N
theorem F59.C_eq {β : Type} (N : Nat) : @F59.C β N = @F59.K β N := congrFun (congrFun (Sealed fun β => @F59.K β).2 β) N
noncomputable def F59.X (N : Nat) : Ctr Try.prog := mkF 59 Try.f59 F59.fx (F59.cs N) [] F59.i (fun x k => F59.C N x.1 x.2.1 x.2.2.1 x.2.2.2.1 (fun r0 r1 => k (Sh.mk F59.o0 (r0, r1, ())))) (by intros; rw [F59.C_eq]; kernel_rfl) (by kernel_rfl) (by kernel_rfl) (by kernel_rfl) (by kernel_rfl) rfl (by kernel_rfl) rfl (by kernel_rfl) (by kernel_rfl) (by kernel_rfl) (.dead _ 59) rfl
end Go.Vi.B
/- (minecontrol/draught.Pipe).Drop -/
namespace Go.Vi.B
open Go.Proofs
set_option linter.unusedVariables false
set_option maxRecDepth 100000
abbrev F49.i : Sh := [(0, .agg [.i, .i, .i, .i, .bool, .bool, .i, .i, .i, .i, .i, .lst .frz 113 kd14]), (2, .one .i)]
abbrev F49.o0 : Sh := [(0, .agg [.i, .i])]
noncomputable def F49.l8 {β : Type} (N : Nat) : Nat → Int → Int → Int → Int → Int → (List (Fa × Int)) → Int → Int → (Int → Int → Int → Int → Int → (List (Fa × Int)) → Int → Int → Bool → Option β) → Option β
 | 0, _, _, _, _, _, _, _, _, _ => none
 | n + 1, v0, v1, v2, v3, v4, v5, v6, v7, k0 =>
  bl (v7 < v6) (k0 v0 v1 v2 v3 v4 v5 v6 v7 (decide (v7 < v6))) <|
  ck (0 ≤ v7) <|
  ge (v5[v7.toNat]?) fun x1 =>
  F65.C N x1.1.1 x1.1.2.1 x1.1.2.2.1 x1.1.2.2.2 x1.2 v0 fun r2 r3 =>
  F49.l8 N n v0 v1 v2 (w (v3 - r3)) (w (v4 - r2)) v5 v6 (w (v7 + 1)) k0
noncomputable def F49.K {β : Type} (N : Nat) (a0 a1 a2 a3 : Int) (a4 a5 : Bool) (a6 a7 a8 a9 a10 : Int) (a11 : List (Fa × Int)) (a12 : Int) (k0 : Int → Int → Option β) : Option β :=
 bl (a12 < 0) (
  F49.l8 N N a12 0 0 (w ((w (a6 * (w (a12 * a12)))) - a9)) (w ((w (a7 * (w (a12 * a12)))) - a8)) a11 (a11.length : Int) 0 fun _ _ _ z16 z17 _ _ _ _ =>
  k0 z16 z17) <|
 F49.l8 N N a12 0 0 (w ((w ((w (0 - a7)) * (w (a12 * a12)))) - a9)) (w ((w ((w (0 - a6)) * (w (a12 * a12)))) - a8)) a11 (a11.length : Int) 0 fun _ _ _ z7 z8 _ _ _ _ =>
 k0 z7 z8
noncomputable def F49.fx : Fx := ⟨Try.prog, [4], [], [(0,[1,2,4]),(1,[1,2,4,5]),(2,[1,2,4,5,6]),(3,[1,2,4,5,6,27]),(4,[1,2,4,6]),(5,[1,2,4,6]),(6,[1,2,4,6]),(7,[1,4,6,60,61,62]),(8,[1,4,6,60,61,62,63]),(9,[1,4,6,8,60,61,62]),(10,[1,4,6,9,60,61,62]),(11,[1,4,6,9,60,61,62]),(12,[1,4,6,60,61,62]),(13,[1,4,6,60,61,62]),(14,[4])], 86, []⟩
noncomputable def F49.cs (N : Nat) : List (Ctr Try.prog) := [F65.X N]
abbrev F49.s8 : Sh := [(2, .one .i), (8, .one (.addr 4 0)), (9, .slot false [.i, .i]), (12, .one (.addr 6 0)), (13, .slot false [.i, .i]), (120, .one (.lst .frz 113 kd14)), (122, .one .i), (124, .one .i)]
abbrev F49.e8_0 : Sh := [(2, .one .i), (8, .one (.addr 4 0)), (9, .slot false [.i, .i]), (12, .one (.addr 6 0)), (13, .slot false [.i, .i]), (120, .one (.lst .frz 113 kd14)), (122, .one .i), (124, .one .i), (126, .one .bool)]
noncomputable def F49.X8 (N : Nat) : LpC Try.prog F49.fx := mkL (F49.cs N) [] ((loopsOf (bodyOf Try.f49)).getD 0 .skip) 8 [1,4,6,60,61,62] (by kernel_rfl) (by kernel_rfl) (by kernel_rfl) F49.s8 (fun n x k => F49.l8 N n x.1 x.2.1 x.2.2.1 x.2.2.2.1 x.2.2.2.2.1 x.2.2.2.2.2.1 x.2.2.2.2.2.2.1 x.2.2.2.2.2.2.2.1 (fun r0 r1 r2 r3 r4 r5 r6 r7 r8 => k (.exit 0) (Sh.mk F49.e8_0 (r0, r1, r2, r3, r4, r5, r6, r7, r8, ())))) (fun _ _ => rfl) (fun _ _ _ => by kernel_rfl) N
noncomputable def F49.C {β : Type} (N : Nat) := (Sealed fun β => @F49.K β).1 β N
theorem F49.C_eq {β : Type} (N : Nat) : @F49.C β N = @F49.K β N := congrFun (congrFun (Sealed fun β => @F49.K β).2 β) N
noncomputable def F49.X (N : Nat) : Ctr Try.prog := mkF 49 Try.f49 F49.fx (F49.cs N) [F49.X8 N] F49.i (fun x k => F49.C N x.1 x.2.1 x.2.2.1 x.2.2.2.1 x.2.2.2.2.1 x.2.2.2.2.2.1 x.2.2.2.2.2.2.1 x.2.2.2.2.2.2.2.1 x.2.2.2.2.2.2.2.2.1 x.2.2.2.2.2.2.2.2.2.1 x.2.2.2.2.2.2.2.2.2.2.1 x.2.2.2.2.2.2.2.2.2.2.2.1 x.2.2.2.2.2.2.2.2.2.2.2.2.1 (fun r0 r1 => k (Sh.mk F49.o0 (r0, r1, ())))) (by intros; rw [F49.C_eq]; kernel_rfl) (by kernel_rfl) (by kernel_rfl) (by kernel_rfl) (by kernel_rfl) rfl (by kernel_rfl) rfl (by kernel_rfl) (by kernel_rfl) (by kernel_rfl) (.dead _ 49) rfl
end Go.Vi.B
/- (minecontrol/draught.Pipe).FlowLow -/
namespace Go.Vi.B
open Go.Proofs
set_option linter.unusedVariables false
set_option maxRecDepth 100000
abbrev F42.i : Sh := [(0, .agg [.i, .i, .i, .i, .bool, .bool, .i, .i, .i, .i, .i, .lst .frz 113 kd14]), (2, .one .i)]
abbrev F42.o0 : Sh := [(0, .one .i)]
noncomputable def F42.l2 {β : Type} (N : Nat) : Nat → Int → Int → Int → Int → Int → Bool → Bool → Int → Int → Int → Int → Int → (List (Fa × Int)) → Int → Int → Int → (Int → Int → Int → Int → Int → Bool → Bool → Int → Int → Int → Int → Int → (List (Fa × Int)) → Int → Int → Int → Bool → Option β) → Option β
 | 0, _, _, _, _, _, _, _, _, _, _, _, _, _, _, _, _, _ => none
 | n + 1, v0, v1, v2, v3, v4, v5, v6, v7, v8, v9, v10, v11, v12, v13, v14, v15, k0 =>
  bl (v14 < v15) (k0 v0 v1 v2 v3 v4 v5 v6 v7 v8 v9 v10 v11 v12 v13 v14 v15 (decide (v14 < v15))) <|
  F49.C N v1 v2 v3 v4 v5 v6 v7 v8 v9 v10 v11 v12 (w (v14 + (w (Int.tdiv (w ((w (v15 - v14)) + 1)) 2)))) fun _ r2 =>
  br (r2 ≤ v0) (
   F42.l2 N n v0 v1 v2 v3 v4 v5 v6 v7 v8 v9 v10 v11 v12 v13 (w (v14 + (w (Int.tdiv (w ((w (v15 - v14)) + 1)) 2)))) v15 k0) <|
  F42.l2 N n v0 v1 v2 v3 v4 v5 v6 v7 v8 v9 v10 v11 v12 v13 v14 (w ((w (v14 + (w (Int.tdiv (w ((w (v15 - v14)) + 1)) 2)))) - 1)) k0
noncomputable def F42.K {β : Type} (N : Nat) (a0 a1 a2 a3 : Int) (a4 a5 : Bool) (a6 a7 a8 a9 a10 : Int) (a11 : List (Fa × Int)) (a12 : Int) (k0 : Int → Option β) : Option β :=
 F42.l2 N N a12 a0 a1 a2 a3 a4 a5 a6 a7 a8 a9 a10 a11 0 (-1048577) 1048576 fun _ _ _ _ _ _ _ _ _ _ _ _ _ _ z17 _ _ =>
 k0 z17
noncomputable def F42.fx : Fx := ⟨Try.prog, [], [], [(0,[1,2,4]),(1,[1,2,4,5,6]),(2,[1,2,4,5,6,10]),(3,[1,2,4,5,6,7]),(4,[1,2,4,5,6,7,23]),(5,[1,2,4,5,6]),(6,[1,2,4,5,6]),(7,[4])], 28, []⟩
noncomputable def F42.cs (N : Nat) : List (Ctr Try.prog) := [F49.X N]
abbrev F42.s2 : Sh := [(2, .one .i), (4, .one (.addr 2 0)), (5, .slot false [.i, .i, .i, .i, .bool, .bool, .i, .i, .i, .i, .i, .lst .frz 113 kd14]), (8, .one .i), (10, .one .i), (12, .one .i)]
abbrev F42.e2_0 : Sh := [(2, .one .i), (4, .one (.addr 2 0)), (5, .slot false [.i, .i, .i, .i, .bool, .bool, .i, .i, .i, .i, .i, .lst .frz 113 kd14]), (8, .one .i), (10, .one .i), (12, .one .i), (20, .one .bool)]
noncomputable def F42.X2 (N : Nat) : LpC Try.prog F42.fx := mkL (F42.cs N) [] ((loopsOf (bodyOf Try.f42)).getD 0 .skip) 2 [1,2,4,5,6] (by kernel_rfl) (by kernel_rfl) (by kernel_rfl) F42.s2 (fun n x k => F42.l2 N n x.1 x.2.1 x.2.2.1 x.2.2.2.1 x.2.2.2.2.1 x.2.2.2.2.2.1 x.2.2.2.2.2.2.1 x.2.2.2.2.2.2.2.1 x.2.2.2.2.2.2.2.2.1 x.2.2.2.2.2.2.2.2.2.1 x.2.2.2.2.2.2.2.2.2.2.1 x.2.2.2.2.2.2.2.2.2.2.2.1 x.2.2.2.2.2.2.2.2.2.2.2.2.1 x.2.2.2.2.2.2.2.2.2.2.2.2.2.1 x.2.2.2.2.2.2.2.2.2.2.2.2.2.2.1 x.2.2.2.2.2.2.2.2.2.2.2.2.2.2.2.1 (fun r0 r1 r2 r3 r4 r5 r6 r7 r8 r9 r10 r11 r12 r13 r14 r15 r16 => k (.exit 0) (Sh.mk F42.e2_0 (r0, r1, r2, r3, r4, r5, r6, r7, r8, r9, r10, r11, r12, r13, r14, r15, r16, ())))) (fun _ _ => rfl) (fun _ _ _ => by kernel_rfl) N
noncomputable def F42.C {β : Type} (N : Nat) := (Sealed fun β => @F42.K β).1 β N
theorem F42.C_eq {β : Type} (N : Nat) : @F42.C β N = @F42.K β N := congrFun (congrFun (Sealed fun β => @F42.K β).2 β) N
noncomputable def F42.X (N : Nat) : Ctr Try.prog := mkF 42 Try.f42 F42.fx (F42.cs N) [F42.X2 N] F42.i (fun x k => F42.C N x.1 x.2.1 x.2.2.1 x.2.2.2.1 x.2.2.2.2.1 x.2.2.2.2.2.1 x.2.2.2.2.2.2.1 x.2.2.2.2.2.2.2.1 x.2.2.2.2.2.2.2.2.1 x.2.2.2.2.2.2.2.2.2.1 x.2.2.2.2.2.2.2.2.2.2.1 x.2.2.2.2.2.2.2.2.2.2.2.1 x.2.2.2.2.2.2.2.2.2.2.2.2.1 (fun r0 => k (Sh.mk F42.o0 (r0, ())))) (by intros; rw [F42.C_eq]; kernel_rfl) (by kernel_rfl) (by kernel_rfl) (by kernel_rfl) (by kernel_rfl) rfl (by kernel_rfl) rfl (by kernel_rfl) (by kernel_rfl) (by kernel_rfl) (.dead _ 42) rfl
end Go.Vi.B
/- (minecontrol/draught.Pipe).FlowHigh -/
namespace Go.Vi.B
open Go.Proofs
set_option linter.unusedVariables false
set_option maxRecDepth 100000
abbrev F43.i : Sh := [(0, .agg [.i, .i, .i, .i, .bool, .bool, .i, .i, .i, .i, .i, .lst .frz 113 kd14]), (2, .one .i)]
abbrev F43.o0 : Sh := [(0, .one .i)]
noncomputable def F43.l2 {β : Type} (N : Nat) : Nat → Int → Int → Int → Int → Int → Bool → Bool → Int → Int → Int → Int → Int → (List (Fa × Int)) → Int → Int → Int → (Int → Int → Int → Int → Int → Bool → Bool → Int → Int → Int → Int → Int → (List (Fa × Int)) → Int → Int → Int → Bool → Option β) → Option β
 | 0, _, _, _, _, _, _, _, _, _, _, _, _, _, _, _, _, _ => none
 | n + 1, v0, v1, v2, v3, v4, v5, v6, v7, v8, v9, v10, v11, v12, v13, v14, v15, k0 =>
  bl (v14 < v15) (k0 v0 v1 v2 v3 v4 v5 v6 v7 v8 v9 v10 v11 v12 v13 v14 v15 (decide (v14 < v15))) <|
  F49.C N v1 v2 v3 v4 v5 v6 v7 v8 v9 v10 v11 v12 (w (v14 + (w (Int.tdiv (w (v15 - v14)) 2)))) fun r1 _ =>
  br (r1 ≥ v0) (
   F43.l2 N n v0 v1 v2 v3 v4 v5 v6 v7 v8 v9 v10 v11 v12 v13 v14 (w (v14 + (w (Int.tdiv (w (v15 - v14)) 2)))) k0) <|
  F43.l2 N n v0 v1 v2 v3 v4 v5 v6 v7 v8 v9 v10 v11 v12 v13 (w ((w (v14 + (w (Int.tdiv (w (v15 - v14)) 2)))) + 1)) v15 k0
noncomputable def F43.K {β : Type} (N : Nat) (a0 a1 a2 a3 : Int) (a4 a5 : Bool) (a6 a7 a8 a9 a10 : Int) (a11 : List (Fa × Int)) (a12 : Int) (k0 : Int → Option β) : Option β :=
 F43.l2 N N a12 a0 a1 a2 a3 a4 a5 a6 a7 a8 a9 a10 a11 0 (-1048576) 1048577 fun _ _ _ _ _ _ _ _ _ _ _ _ _ _ z17 _ _ =>
 k0 z17
noncomputable def F43.fx : Fx := ⟨Try.prog, [], [], [(0,[1,2,4]),(1,[1,2,4,5,6]),(2,[1,2,4,5,6,10]),(3,[1,2,4,5,6,7]),(4,[1,2,4,5,6,7,22]),(5,[1,2,4,5,6]),(6,[1,2,4,5,6]),(7,[4])], 27, []⟩
noncomputable def F43.cs (N : Nat) : List (Ctr Try.prog) := [F49.X N]
abbrev F43.s2 : Sh := [(2, .one .i), (4, .one (.addr 2 0)), (5, .slot false [.i, .i, .i, .i, .bool, .bool, .i, .i, .i, .i, .i, .lst .frz 113 kd14]), (8, .one .i), (10, .one .i), (12, .one .i)]
abbrev F43.e2_0 : Sh := [(2, .one .i), (4, .one (.addr 2 0)), (5, .slot false [.i, .i, .i, .i, .bool, .bool, .i, .i, .i, .i, .i, .lst .frz 113 kd14]), (8, .one .i), (10, .one .i), (12, .one .i), (20, .one .bool)]
noncomputable def F43.X2 (N : Nat) : LpC Try.prog F43.fx := mkL (F43.cs N) [] ((loopsOf (bodyOf Try.f43)).getD 0 .skip) 2 [1,2,4,5,6] (by kernel_rfl) (by kernel_rfl) (by kernel_rfl) F43.s2 (fun n x k => F43.l2 N n x.1 x.2.1 x.2.2.1 x.2.2.2.1 x.2.2.2.2.1 x.2.2.2.2.2.1 x.2.2.2.2.2.2.1 x.2.2.2.2.2.2.2.1 x.2.2.2.2.2.2.2.2.1 x.2.2.2.2.2.2.2.2.2.1 x.2.2.2.2.2.2.2.2.2.2.1 x.2.2.2.2.2.2.2.2.2.2.2.1 x.2.2.2.2.2.2.2.2.2.2.2.2.1 x.2.2.2.2.2.2.2.2.2.2.2.2.2.1 x.2.2.2.2.2.2.2.2.2.2.2.2.2.2.1 x.2.2.2.2.2.2.2.2.2.2.2.2.2.2.2.1 (fun r0 r1 r2 r3 r4 r5 r6 r7 r8 r9 r10 r11 r12 r13 r14 r15 r16 => k (.exit 0) (Sh.mk F43.e2_0 (r0, r1, r2, r3, r4, r5, r6, r7, r8, r9, r10, r11, r12, r13, r14, r15, r16, ())))) (fun _ _ => rfl) (fun _ _ _ => by kernel_rfl) N
noncomputable def F43.C {β : Type} (N : Nat) := (Sealed fun β => @F43.K β).1 β N
theorem F43.C_eq {β : Type} (N : Nat) : @F43.C β N = @F43.K β N := congrFun (congrFun (Sealed fun β => @F43.K β).2 β) N
noncomputable def F43.X (N : Nat) : Ctr Try.prog := mkF 43 Try.f43 F43.fx (F43.cs N) [F43.X2 N] F43.i (fun x k => F43.C N x.1 x.2.1 x.2.2.1 x.2.2.2.1 x.2.2.2.2.1 x.2.2.2.2.2.1 x.2.2.2.2.2.2.1 x.2.2.2.2.2.2.2.1 x.2.2.2.2.2.2.2.2.1 x.2.2.2.2.2.2.2.2.2.1 x.2.2.2.2.2.2.2.2.2.2.1 x.2.2.2.2.2.2.2.2.2.2.2.1 x.2.2.2.2.2.2.2.2.2.2.2.2.1 (fun r0 => k (Sh.mk F43.o0 (r0, ())))) (by intros; rw [F43.C_eq]; kernel_rfl) (by kernel_rfl) (by kernel_rfl) (by kernel_rfl) (by kernel_rfl) rfl (by kernel_rfl) rfl (by kernel_rfl) (by kernel_rfl) (by kernel_rfl) (.dead _ 43) rfl
end Go.Vi.B
/- minecontrol/minecontrolref09.Inner -/
namespace Go.Vi.B
open Go.Proofs
set_option linter.unusedVariables false
set_option maxRecDepth 100000
abbrev F63.i : Sh := [(0, .agg [.lst .frz 62 kd1, .lst .frz 71 kd8, .lst .frz 100 kd11, .lst .frz 55 kd13]), (2, .agg [.lst .frz 3 .i, .lst .frz 3 .i]), (4, .one .i), (6, .one .i)]
abbrev F63.o0 : Sh := [(0, .agg [.i, .i])]
noncomputable def F63.l4 {β : Type} (N : Nat) : Nat → Int → Int → (List Pl) → (List Ro) → (List Fa) → (List Do) → (List Int) → (List Int) → Int → Int → Int → Int → Int → Int → Bool → Bool → Int → Int → Int → Int → Int → Int → Int → (Int → Int → List Pl → List Ro → List Fa → List Do → List Int → List Int → Int → Int → Int → Int → Int → Int → Bool → Bool → Int → Int → Int → Int → Int → Int → Int → Bool → Option β) → Option β
 | 0, _, _, _, _, _, _, _, _, _, _, _, _, _, _, _, _, _, _, _, _, _, _, _, _ => none
 | n + 1, v0, v1, v2, v3, v4, v5, v6, v7, v8, v9, v10, v11, v12, v13, v14, v15, v16, v17, v18, v19, v20, v21, v22, k0 =>
  bl (v22 < (v5.length : Int)) (
   k0 v0 v1 v2 v3 v4 v5 v6 v7 v8 v9 v10 v11 v12 v13 v14 v15 v16 v17 v18 v19 v20 v21 v22 (decide (v22 < (v5.length : Int)))) <|
  ck (0 ≤ v22) <|
  ge (v5[v22.toNat]?) fun x1 =>
  bl (x1.1 = v0) (F63.l4 N n v0 v1 v2 v3 v4 v5 v6 v7 v8 v9 v10 v11 v12 v13 v14 v15 v16 v17 v18 v19 v20 v21 (w (v22 + 1)) k0) <|
  ck (0 ≤ v22) <|
  ge (v5[v22.toNat]?) fun x2 =>
  ck (0 ≤ v22) <|
  ge (v7[v22.toNat]?) fun x3 =>
  F52.C N x2.1 x2.2.1 x2.2.2 x3 fun r4 r5 =>
  F63.l4 N n v0 v1 v2 v3 v4 v5 v6 v7 v8 v9 v10 v11 v12 v13 v14 v15 v16 v17 v18 v19 (w (v20 + r4)) (w (v21 + r5)) (w (v22 + 1)) k0
noncomputable def F63.l14 {β : Type} (N : Nat) : Nat → Int → Int → (List Pl) → (List Ro) → (List Fa) → (List Do) → (List Int) → (List Int) → Int → Int → Int → Int → Int → (Int → Int → List Pl → List Ro → List Fa → List Do → List Int → List Int → Int → Int → Int → Int → Int → Bool → Option β) → Option β
 | 0, _, _, _, _, _, _, _, _, _, _, _, _, _, _ => none
 | n + 1, v0, v1, v2, v3, v4, v5, v6, v7, v8, v9, v10, v11, v12, k0 =>
  bl (v12 < (v4.length : Int)) (k0 v0 v1 v2 v3 v4 v5 v6 v7 v8 v9 v10 v11 v12 (decide (v12 < (v4.length : Int)))) <|
  ck (0 ≤ v12) <|
  ge (v4[v12.toNat]?) fun x1 =>
  bl (x1.1 = v0) (F63.l14 N n v0 v1 v2 v3 v4 v5 v6 v7 v8 v9 v10 v11 (w (v12 + 1)) k0) <|
  ck (0 ≤ v12) <|
  ge (v4[v12.toNat]?) fun x2 =>
  ck (0 ≤ v12) <|
  ge (v6[v12.toNat]?) fun x3 =>
  F53.C N x2.1 x2.2.1 x2.2.2.1 x2.2.2.2 x3 v1 fun r4 r5 =>
  F63.l14 N n v0 v1 v2 v3 v4 v5 v6 v7 v8 v9 (w (v10 - r5)) (w (v11 - r4)) (w (v12 + 1)) k0
noncomputable def F63.K {β : Type} (N : Nat) (a0 : List Pl) (a1 : List Ro) (a2 : List Fa) (a3 : List Do) (a4 a5 : List Int) (a6 a7 : Int) (k0 : Int → Int → Option β) : Option β :=
 ck (0 ≤ a6) <|
 ge (a1[a6.toNat]?) fun x1 =>
 F63.l4 N N a6 a7 a0 a1 a2 a3 a4 a5 0 0 x1.1 x1.2.1 x1.2.2.1 x1.2.2.2.1 x1.2.2.2.2.1 x1.2.2.2.2.2.1 x1.2.2.2.2.2.2.1.1 x1.2.2.2.2.2.2.1.2 x1.2.2.2.2.2.2.2.1 x1.2.2.2.2.2.2.2.2 x1.2.2.2.2.2.2.1.1 x1.2.2.2.2.2.2.1.2 0 fun z6 z7 z8 z9 z10 z11 z12 z13 z14 z15 _ _ _ _ _ _ _ _ z24 z25 z26 z27 _ _ =>
 bl (z7 < 0) (
  F63.l14 N N z6 z7 z8 z9 z10 z11 z12 z13 z14 z15 (w ((w ((w (z26 * z7)) * z7)) - z25)) (w ((w ((w (z27 * z7)) * z7)) - z24)) 0 fun _ _ _ _ _ _ _ _ _ _ z54 z55 _ _ =>
  k0 z54 z55) <|
 F63.l14 N N z6 z7 z8 z9 z10 z11 z12 z13 z14 z15 (w ((w (0 - (w ((w (z27 * z7)) * z7)))) - z25)) (w ((w (0 - (w ((w (z26 * z7)) * z7)))) - z24)) 0 fun _ _ _ _ _ _ _ _ _ _ z40 z41 _ _ =>
 k0 z40 z41
noncomputable def F63.fx : Fx := ⟨Try.prog, [8], [], [(0,[2,3,4,5,8]),(1,[2,3,4,5,8,9]),(2,[2,3,4,5,8,9,10]),(3,[2,3,4,5,8,9,10,11]),(4,[2,3,4,5,8,9,10,11,28]),(5,[2,3,4,5,8,9,10,11]),(6,[2,3,4,5,8,9,10,11,38]),(7,[2,3,4,5,8,9,10,11,12]),(8,[2,3,4,5,8,9,10,11]),(9,[2,3,4,5,8,9,13]),(10,[2,3,4,5,8,9,13,76]),(11,[2,3,4,5,8,9,13]),(12,[2,3,4,5,8,13]),(13,[2,3,4,5,8,13,14]),(14,[2,3,4,5,8,13,14,102]),(15,[2,3,4,5,8,13,14]),(16,[2,3,4,5,8,13,14,112]),(17,[2,3,4,5,8,13,14,15]),(18,[2,3,4,5,8,13,14]),(19,[8])], 138, []⟩
noncomputable def F63.cs (N : Nat) : List (Ctr Try.prog) := [F52.X N, F53.X N]
abbrev F63.s4 : Sh := [(4, .one .i), (6, .one .i), (8, .one (.addr 4 0)), (9, .slot false [.lst .frz 62 kd1, .lst .frz 71 kd8, .lst .frz 100 kd11, .lst .frz 55 kd13]), (10, .one (.addr 5 0)), (11, .slot false [.lst .frz 3 .i, .lst .frz 3 .i]), (16, .one (.addr 8 0)), (17, .slot false [.i, .i]), (18, .one (.addr 9 0)), (19, .slot false [.i, .i, .i, .i, .bool, .bool, .i, .i, .i, .i]), (20, .one (.addr 10 0)), (21, .slot false [.i, .i]), (22, .one .i)]
abbrev F63.e4_0 : Sh := [(4, .one .i), (6, .one .i), (8, .one (.addr 4 0)), (9, .slot false [.lst .frz 62 kd1, .lst .frz 71 kd8, .lst .frz 100 kd11, .lst .frz 55 kd13]), (10, .one (.addr 5 0)), (11, .slot false [.lst .frz 3 .i, .lst .frz 3 .i]), (16, .one (.addr 8 0)), (17, .slot false [.i, .i]), (18, .one (.addr 9 0)), (19, .slot false [.i, .i, .i, .i, .bool, .bool, .i, .i, .i, .i]), (20, .one (.addr 10 0)), (21, .slot false [.i, .i]), (22, .one .i), (56, .one .bool)]
noncomputable def F63.X4 (N : Nat) : LpC Try.prog F63.fx := mkL (F63.cs N) [] ((loopsOf (bodyOf Try.f63)).getD 0 .skip) 4 [2,3,4,5,8,9,10,11] (by kernel_rfl) (by kernel_rfl) (by kernel_rfl) F63.s4 (fun n x k => F63.l4 N n x.1 x.2.1 x.2.2.1 x.2.2.2.1 x.2.2.2.2.1 x.2.2.2.2.2.1 x.2.2.2.2.2.2.1 x.2.2.2.2.2.2.2.1 x.2.2.2.2.2.2.2.2.1 x.2.2.2.2.2.2.2.2.2.1 x.2.2.2.2.2.2.2.2.2.2.1 x.2.2.2.2.2.2.2.2.2.2.2.1 x.2.2.2.2.2.2.2.2.2.2.2.2.1 x.2.2.2.2.2.2.2.2.2.2.2.2.2.1 x.2.2.2.2.2.2.2.2.2.2.2.2.2.2.1 x.2.2.2.2.2.2.2.2.2.2.2.2.2.2.2.1 x.2.2.2.2.2.2.2.2.2.2.2.2.2.2.2.2.1 x.2.2.2.2.2.2.2.2.2.2.2.2.2.2.2.2.2.1 x.2.2.2.2.2.2.2.2.2.2.2.2.2.2.2.2.2.2.1 x.2.2.2.2.2.2.2.2.2.2.2.2.2.2.2.2.2.2.2.1 x.2.2.2.2.2.2.2.2.2.2.2.2.2.2.2.2.2.2.2.2.1 x.2.2.2.2.2.2.2.2.2.2.2.2.2.2.2.2.2.2.2.2.2.1 x.2.2.2.2.2.2.2.2.2.2.2.2.2.2.2.2.2.2.2.2.2.2.1 (fun r0 r1 r2 r3 r4 r5 r6 r7 r8 r9 r10 r11 r12 r13 r14 r15 r16 r17 r18 r19 r20 r21 r22 r23 => k (.exit 0) (Sh.mk F63.e4_0 (r0, r1, r2, r3, r4, r5, r6, r7, r8, r9, r10, r11, r12, r13, r14, r15, r16, r17, r18, r19, r20, r21, r22, r23, ())))) (fun _ _ => rfl) (fun _ _ _ => by kernel_rfl) N
abbrev F63.s14 : Sh := [(4, .one .i), (6, .one .i), (8, .one (.addr 4 0)), (9, .slot false [.lst .frz 62 kd1, .lst .frz 71 kd8, .lst .frz 100 kd11, .lst .frz 55 kd13]), (10, .one (.addr 5 0)), (11, .slot false [.lst .frz 3 .i, .lst .frz 3 .i]), (16, .one (.addr 8 0)), (17, .slot false [.i, .i]), (26, .one (.addr 13 0)), (27, .slot false [.i, .i]), (28, .one .i)]
abbrev F63.e14_0 : Sh := [(4, .one .i), (6, .one .i), (8, .one (.addr 4 0)), (9, .slot false [.lst .frz 62 kd1, .lst .frz 71 kd8, .lst .frz 100 kd11, .lst .frz 55 kd13]), (10, .one (.addr 5 0)), (11, .slot false [.lst .frz 3 .i, .lst .frz 3 .i]), (16, .one (.addr 8 0)), (17, .slot false [.i, .i]), (26, .one (.addr 13 0)), (27, .slot false [.i, .i]), (28, .one .i), (204, .one .bool)]
noncomputable def F63.X14 (N : Nat) : LpC Try.prog F63.fx := mkL (F63.cs N) [] ((loopsOf (bodyOf Try.f63)).getD 1 .skip) 14 [2,3,4,5,8,13,14] (by kernel_rfl) (by kernel_rfl) (by kernel_rfl) F63.s14 (fun n x k => F63.l14 N n x.1 x.2.1 x.2.2.1 x.2.2.2.1 x.2.2.2.2.1 x.2.2.2.2.2.1 x.2.2.2.2.2.2.1 x.2.2.2.2.2.2.2.1 x.2.2.2.2.2.2.2.2.1 x.2.2.2.2.2.2.2.2.2.1 x.2.2.2.2.2.2.2.2.2.2.1 x.2.2.2.2.2.2.2.2.2.2.2.1 x.2.2.2.2.2.2.2.2.2.2.2.2.1 (fun r0 r1 r2 r3 r4 r5 r6 r7 r8 r9 r10 r11 r12 r13 => k (.exit 2) (Sh.mk F63.e14_0 (r0, r1, r2, r3, r4, r5, r6, r7, r8, r9, r10, r11, r12, r13, ())))) (fun _ _ => rfl) (fun _ _ _ => by kernel_rfl) N
noncomputable def F63.C {β : Type} (N : Nat) := (Sealed fun β => @F63.K β).1 β N
theorem F63.C_eq {β : Type} (N : Nat) : @F63.C β N = @F63.K β N := congrFun (congrFun (Sealed fun β => @F63.K β).2 β) N
noncomputable def F63.X (N : Nat) : Ctr Try.prog := mkF 63 Try.f63 F63.fx (F63.cs N) [F63.X4 N, F63.X14 N] F63.i (fun x k => F63.C N x.1 x.2.1 x.2.2.1 x.2.2.2.1 x.2.2.2.2.1 x.2.2.2.2.2.1 x.2.2.2.2.2.2.1 x.2.2.2.2.2.2.2.1 (fun r0 r1 => k (Sh.mk F63.o0 (r0, r1, ())))) (by intros; rw [F63.C_eq]; kernel_rfl) (by kernel_rfl) (by kernel_rfl) (by kernel_rfl) (by kernel_rfl) rfl (by kernel_rfl) rfl (by kernel_rfl) (by kernel_rfl) (by kernel_rfl) (.dead _ 63) rfl
end Go.Vi.B
/- minecontrol/minecontrolref09.Lowest -/
namespace Go.Vi.B
open Go.Proofs
set_option linter.unusedVariables false
set_option maxRecDepth 100000
abbrev F45.i : Sh := [(0, .agg [.lst .frz 62 kd1, .lst .frz 71 kd8, .lst .frz 100 kd11, .lst .frz 55 kd13]), (2, .agg [.lst .frz 3 .i, .lst .frz 3 .i]), (4, .one .i), (6, .one .i)]
abbrev F45.o0 : Sh := [(0, .one .i)]
noncomputable def F45.l2 {β : Type} (N : Nat) : Nat → Int → Int → (List Pl) → (List Ro) → (List Fa) → (List Do) → (List Int) → (List Int) → Int → Int → Int → (Int → Int → List Pl → List Ro → List Fa → List Do → List Int → List Int → Int → Int → Int → Bool → Option β) → Option β
 | 0, _, _, _, _, _, _, _, _, _, _, _, _ => none
 | n + 1, v0, v1, v2, v3, v4, v5, v6, v7, v8, v9, v10, k0 =>
  bl (v9 < v10) (k0 v0 v1 v2 v3 v4 v5 v6 v7 v8 v9 v10 (decide (v9 < v10))) <|
  F63.C N v2 v3 v4 v5 v6 v7 v0 (w (v9 + (w (Int.tdiv (w ((w (v10 - v9)) + 1)) 2)))) fun _ r2 =>
  br (r2 ≤ v1) (F45.l2 N n v0 v1 v2 v3 v4 v5 v6 v7 v8 (w (v9 + (w (Int.tdiv (w ((w (v10 - v9)) + 1)) 2)))) v10 k0) <|
  F45.l2 N n v0 v1 v2 v3 v4 v5 v6 v7 v8 v9 (w ((w (v9 + (w (Int.tdiv (w ((w (v10 - v9)) + 1)) 2)))) - 1)) k0
noncomputable def F45.K {β : Type} (N : Nat) (a0 : List Pl) (a1 : List Ro) (a2 : List Fa) (a3 : List Do) (a4 a5 : List Int) (a6 a7 : Int) (k0 : Int → Option β) : Option β :=
 F45.l2 N N a6 a7 a0 a1 a2 a3 a4 a5 0 (-1048577) 1048576 fun _ _ _ _ _ _ _ _ _ z12 _ _ =>
 k0 z12
noncomputable def F45.fx : Fx := ⟨Try.prog, [], [], [(0,[2,3,4,5,8]),(1,[2,3,4,5,8,9,10]),(2,[2,3,4,5,8,9,10,14]),(3,[2,3,4,5,8,9,10,11]),(4,[2,3,4,5,8,9,10,11,29]),(5,[2,3,4,5,8,9,10]),(6,[2,3,4,5,8,9,10]),(7,[8])], 34, []⟩
noncomputable def F45.cs (N : Nat) : List (Ctr Try.prog) := [F63.X N]
abbrev F45.s2 : Sh := [(4, .one .i), (6, .one .i), (8, .one (.addr 4 0)), (9, .slot false [.lst .frz 62 kd1, .lst .frz 71 kd8, .lst .frz 100 kd11, .lst .frz 55 kd13]), (10, .one (.addr 5 0)), (11, .slot false [.lst .frz 3 .i, .lst .frz 3 .i]), (16, .one .i), (18, .one .i), (20, .one .i)]
abbrev F45.e2_0 : Sh := [(4, .one .i), (6, .one .i), (8, .one (.addr 4 0)), (9, .slot false [.lst .frz 62 kd1, .lst .frz 71 kd8, .lst .frz 100 kd11, .lst .frz 55 kd13]), (10, .one (.addr 5 0)), (11, .slot false [.lst .frz 3 .i, .lst .frz 3 .i]), (16, .one .i), (18, .one .i), (20, .one .i), (28, .one .bool)]
noncomputable def F45.X2 (N : Nat) : LpC Try.prog F45.fx := mkL (F45.cs N) [] ((loopsOf (bodyOf Try.f45)).getD 0 .skip) 2 [2,3,4,5,8,9,10] (by kernel_rfl) (by kernel_rfl) (by kernel_rfl) F45.s2 (fun n x k => F45.l2 N n x.1 x.2.1 x.2.2.1 x.2.2.2.1 x.2.2.2.2.1 x.2.2.2.2.2.1 x.2.2.2.2.2.2.1 x.2.2.2.2.2.2.2.1 x.2.2.2.2.2.2.2.2.1 x.2.2.2.2.2.2.2.2.2.1 x.2.2.2.2.2.2.2.2.2.2.1 (fun r0 r1 r2 r3 r4 r5 r6 r7 r8 r9 r10 r11 => k (.exit 0) (Sh.mk F45.e2_0 (r0, r1, r2, r3, r4, r5, r6, r7, r8, r9, r10, r11, ())))) (fun _ _ => rfl) (fun _ _ _ => by kernel_rfl) N
noncomputable def F45.C {β : Type} (N : Nat) := (Sealed fun β => @F45.K β).1 β N
theorem F45.C_eq {β : Type} (N : Nat) : @F45.C β N = @F45.K β N := congrFun (congrFun (Sealed fun β => @F45.K β).2 β) N
noncomputable def F45.X (N : Nat) : Ctr Try.prog := mkF 45 Try.f45 F45.fx (F45.cs N) [F45.X2 N] F45.i (fun x k => F45.C N x.1 x.2.1 x.2.2.1 x.2.2.2.1 x.2.2.2.2.1 x.2.2.2.2.2.1 x.2.2.2.2.2.2.1 x.2.2.2.2.2.2.2.1 (fun r0 => k (Sh.mk F45.o0 (r0, ())))) (by intros; rw [F45.C_eq]; kernel_rfl) (by kernel_rfl) (by kernel_rfl) (by kernel_rfl) (by kernel_rfl) rfl (by kernel_rfl) rfl (by kernel_rfl) (by kernel_rfl) (by kernel_rfl) (.dead _ 45) rfl
end Go.Vi.B
/- minecontrol/minecontrolref09.Highest -/
namespace Go.Vi.B
open Go.Proofs
set_option linter.unusedVariables false
set_option maxRecDepth 100000
abbrev F46.i : Sh := [(0, .agg [.lst .frz 62 kd1, .lst .frz 71 kd8, .lst .frz 100 kd11, .lst .frz 55 kd13]), (2, .agg [.lst .frz 3 .i, .lst .frz 3 .i]), (4, .one .i), (6, .one .i)]
abbrev F46.o0 : Sh := [(0, .one .i)]
noncomputable def F46.l2 {β : Type} (N : Nat) : Nat → Int → Int → (List Pl) → (List Ro) → (List Fa) → (List Do) → (List Int) → (List Int) → Int → Int → Int → (Int → Int → List Pl → List Ro → List Fa → List Do → List Int → List Int → Int → Int → Int → Bool → Option β) → Option β
 | 0, _, _, _, _, _, _, _, _, _, _, _, _ => none
 | n + 1, v0, v1, v2, v3, v4, v5, v6, v7, v8, v9, v10, k0 =>
  bl (v9 < v10) (k0 v0 v1 v2 v3 v4 v5 v6 v7 v8 v9 v10 (decide (v9 < v10))) <|
  F63.C N v2 v3 v4 v5 v6 v7 v0 (w (v9 + (w (Int.tdiv (w (v10 - v9)) 2)))) fun r1 _ =>
  br (r1 ≥ v1) (F46.l2 N n v0 v1 v2 v3 v4 v5 v6 v7 v8 v9 (w (v9 + (w (Int.tdiv (w (v10 - v9)) 2)))) k0) <|
  F46.l2 N n v0 v1 v2 v3 v4 v5 v6 v7 v8 (w ((w (v9 + (w (Int.tdiv (w (v10 - v9)) 2)))) + 1)) v10 k0
noncomputable def F46.K {β : Type} (N : Nat) (a0 : List Pl) (a1 : List Ro) (a2 : List Fa) (a3 : List Do) (a4 a5 : List Int) (a6 a7 : Int) (k0 : Int → Option β) : Option β :=
 F46.l2 N N a6 a7 a0 a1 a2 a3 a4 a5 0 (-1048576) 1048577 fun _ _ _ _ _ _ _ _ _ z12 _ _ =>
 k0 z12
noncomputable def F46.fx : Fx := ⟨Try.prog, [], [], [(0,[2,3,4,5,8]),(1,[2,3,4,5,8,9,10]),(2,[2,3,4,5,8,9,10,14]),(3,[2,3,4,5,8,9,10,11]),(4,[2,3,4,5,8,9,10,11,28]),(5,[2,3,4,5,8,9,10]),(6,[2,3,4,5,8,9,10]),(7,[8])], 33, []⟩
noncomputable def F46.cs (N : Nat) : List (Ctr Try.prog) := [F63.X N]
abbrev F46.s2 : Sh := [(4, .one .i), (6, .one .i), (8, .one (.addr 4 0)), (9, .slot false [.lst .frz 62 kd1, .lst .frz 71 kd8, .lst .frz 100 kd11, .lst .frz 55 kd13]), (10, .one (.addr 5 0)), (11, .slot false [.lst .frz 3 .i, .lst .frz 3 .i]), (16, .one .i), (18, .one .i), (20, .one .i)]
abbrev F46.e2_0 : Sh := [(4, .one .i), (6, .one .i), (8, .one (.addr 4 0)), (9, .slot false [.lst .frz 62 kd1, .lst .frz 71 kd8, .lst .frz 100 kd11, .lst .frz 55 kd13]), (10, .one (.addr 5 0)), (11, .slot false [.lst .frz 3 .i, .lst .frz 3 .i]), (16, .one .i), (18, .one .i), (20, .one .i), (28, .one .bool)]
noncomputable def F46.X2 (N : Nat) : LpC Try.prog F46.fx := mkL (F46.cs N) [] ((loopsOf (bodyOf Try.f46)).getD 0 .skip) 2 [2,3,4,5,8,9,10] (by kernel_rfl) (by kernel_rfl) (by kernel_rfl) F46.s2 (fun n x k => F46.l2 N n x.1 x.2.1 x.2.2.1 x.2.2.2.1 x.2.2.2.2.1 x.2.2.2.2.2.1 x.2.2.2.2.2.2.1 x.2.2.2.2.2.2.2.1 x.2.2.2.2.2.2.2.2.1 x.2.2.2.2.2.2.2.2.2.1 x.2.2.2.2.2.2.2.2.2.2.1 (fun r0 r1 r2 r3 r4 r5 r6 r7 r8 r9 r10 r11 => k (.exit 0) (Sh.mk F46.e2_0 (r0, r1, r2, r3, r4, r5, r6, r7, r8, r9, r10, r11, ())))) (fun _ _ => rfl) (fun _ _ _ => by kernel_rfl) N
noncomputable def F46.C {β : Type} (N : Nat) := (Sealed fun β => @F46.K β).1 β N
theorem F46.C_eq {β : Type} (N : Nat) : @F46.C β N = @F46.K β N := congrFun (congrFun (Sealed fun β => @F46.K β).2 β) N
noncomputable def F46.X (N : Nat) : Ctr Try.prog := mkF 46 Try.f46 F46.fx (F46.cs N) [F46.X2 N] F46.i (fun x k => F46.C N x.1 x.2.1 x.2.2.1 x.2.2.2.1 x.2.2.2.2.1 x.2.2.2.2.2.1 x.2.2.2.2.2.2.1 x.2.2.2.2.2.2.2.1 (fun r0 => k (Sh.mk F46.o0 (r0, ())))) (by intros; rw [F46.C_eq]; kernel_rfl) (by kernel_rfl) (by kernel_rfl) (by kernel_rfl) (by kernel_rfl) rfl (by kernel_rfl) rfl (by kernel_rfl) (by kernel_rfl) (by kernel_rfl) (.dead _ 46) rfl
end Go.Vi.B
/- What doors add, and what a road's pipe gives. -/
namespace Go.Vi.B
open Go.Proofs Go.Vi.A
set_option linter.unusedVariables false
set_option linter.unusedSimpArgs false
variable {β : Type} {N : Nat} (hN : 1000 ≤ N)
include hN in
theorem slices_Min {l : List Int} (h0 : 1 ≤ l.length) (h1 : l.length ≤ 500) (k : Int → Option β) : F72.C N l k = k (lmin l) := by
  rw [F72.C_eq]; unfold F72.K
  simp only [res, getD_get (d := 0) (show 0 < l.length by omega), ge_some]
  rw [if_neg (by omega)]
  obtain ⟨s, hs, e⟩ := lfor (len := l.length) (L := fun n j (m : Int) => F72.l5 N n l 0 m (j : Int) fun _ _ z _ _ => k z) (k := k) (fun j m => m = (l.take j).foldl min (l.getD 0 0))
    (fun n m hm => by simp only [F72.l5, res]; rw [if_neg (by omega)])
    (fun j m hj hm => ⟨_, by rw [take_snoc (getD_get (d := 0) hj), List.foldl_append, ← hm], fun n => by
      simp only [F72.l5, res, Int.toNat_natCast, getD_get (d := 0) hj, ge_some, w_succ (show j < 4000000000 by omega)]
      rw [if_pos (by omega), if_pos (by omega), mnI]; rfl⟩) 1 (l.getD 0 0) N (by
      cases l with
      | nil => simp at h0
      | cons a r => simp) (by omega) (by omega)
  refine e.trans ?_
  rw [hs, List.take_of_length_le (Nat.le_refl _)]; rfl
include hN in
theorem slices_Max {l : List Int} (h0 : 1 ≤ l.length) (h1 : l.length ≤ 500) (k : Int → Option β) : F73.C N l k = k (lmax l) := by
  rw [F73.C_eq]; unfold F73.K
  simp only [res, getD_get (d := 0) (show 0 < l.length by omega), ge_some]
  rw [if_neg (by omega)]
  obtain ⟨s, hs, e⟩ := lfor (len := l.length) (L := fun n j (m : Int) => F73.l5 N n l 0 m (j : Int) fun _ _ z _ _ => k z) (k := k) (fun j m => m = (l.take j).foldl max (l.getD 0 0))
    (fun n m hm => by simp only [F73.l5, res]; rw [if_neg (by omega)])
    (fun j m hj hm => ⟨_, by rw [take_snoc (getD_get (d := 0) hj), List.foldl_append, ← hm], fun n => by
      simp only [F73.l5, res, Int.toNat_natCast, getD_get (d := 0) hj, ge_some, w_succ (show j < 4000000000 by omega)]
      rw [if_pos (by omega), if_pos (by omega), mxI]; rfl⟩) 1 (l.getD 0 0) N (by
      cases l with
      | nil => simp at h0
      | cons a r => simp) (by omega) (by omega)
  refine e.trans ?_
  rw [hs, List.take_of_length_le (Nat.le_refl _)]; rfl
include hN in
theorem door_Rest (a b : Int) {l : List Int} (h1 : l.length ≤ 500) (s : Int) (k : Int → Int → Option β) : F59.C N a b l s k = k (dRest l s).1 (dRest l s).2 := by
  rw [F59.C_eq]; unfold F59.K dRest
  simp only [res]
  by_cases c1 : (l.length : Int) = 0
  · simp only [c1, ↓reduceIte]
  by_cases c2 : s < -1
  · simp only [c1, c2, ↓reduceIte]
  by_cases c3 : s ≥ (l.length : Int)
  · simp only [c1, c2, c3, ↓reduceIte]
  by_cases c4 : s = -1
  · simp only [c1, c2, c3, c4, ↓reduceIte]
    rw [if_neg (by omega), if_neg (by omega), if_neg (by omega), if_neg (by omega), slices_Min hN (by omega) h1, slices_Max hN (by omega) h1]
  · simp only [c1, c2, c3, c4, ↓reduceIte, getD_get (d := 0) (show s.toNat < l.length by omega), ge_some]
    rw [if_pos (by omega), if_pos (by omega)]
include hN in
theorem ref08_Rest (a b : Int) {l : List Int} (h1 : l.length ≤ 500) (s : Int) (k : Int → Int → Option β) : F52.C N a b l s k = k (dRest l s).1 (dRest l s).2 := by
  rw [F52.C_eq]; unfold F52.K dRest
  simp only [res]
  by_cases c1 : (l.length : Int) = 0
  · simp only [c1, ↓reduceIte]
  by_cases c2 : s < -1
  · simp only [c1, c2, ↓reduceIte]
  by_cases c3 : s ≥ (l.length : Int)
  · simp only [c1, c2, c3, ↓reduceIte]
  by_cases c4 : s = -1
  · subst c4
    rw [if_neg c1, if_neg c2, if_neg c3, if_neg (by omega), if_neg c1, if_neg c2, if_neg c3, if_pos rfl]
    simp only [getD_get (d := 0) (show 0 < l.length by omega), ge_some]
    obtain ⟨s, hs, e⟩ := lfor (len := l.length) (L := fun n j (m : Sp) => F52.l7 N n a b l 0 0 m.1 m.2 (j : Int) fun _ _ _ _ _ z10 z11 _ _ => k z10 z11) (k := fun m => k m.1 m.2)
      (fun j m => m = ((l.take j).foldl min (l.getD 0 0), (l.take j).foldl max (l.getD 0 0)))
      (fun n m hm => by simp only [F52.l7, res]; rw [if_neg (by omega)])
      (fun j m hj hm => ⟨_, by rw [take_snoc (getD_get (d := 0) hj), List.foldl_append, List.foldl_append], fun n => by
        subst hm
        simp only [F52.l7, res, Int.toNat_natCast, getD_get (d := 0) hj, ge_some, w_succ (show j < 4000000000 by omega)]
        rw [if_pos (by omega), if_pos (by omega), if_pos (by omega), mnI, mxI]; rfl⟩) 0 (l.getD 0 0, l.getD 0 0) N rfl (by omega) (by omega)
    refine e.trans ?_
    rw [hs, List.take_of_length_le (Nat.le_refl _)]; rfl
  · rw [if_neg c1, if_neg c2, if_neg c3, if_pos (by omega), if_neg c1, if_neg c2, if_neg c3, if_neg c4]
    simp only [getD_get (d := 0) (show s.toNat < l.length by omega), ge_some]
    rw [if_pos (by omega), if_pos (by omega)]
/-- A pipe whose numbers are in order. -/
structure PipeOk (p : Pi) : Prop where
  rest : 1 ≤ p.1.2.2.2.2.2.2.1.1 ∧ p.1.2.2.2.2.2.2.1.1 ≤ p.1.2.2.2.2.2.2.1.2 ∧ p.1.2.2.2.2.2.2.1.2 ≤ 4456448
  lift : -2199023255552 ≤ p.1.2.2.2.2.2.2.2.1 ∧ p.1.2.2.2.2.2.2.2.1 ≤ p.1.2.2.2.2.2.2.2.2 ∧ p.1.2.2.2.2.2.2.2.2 ≤ 2199023255552
  len : p.2.2.length ≤ 8
  fan : ∀ x ∈ p.2.2, GoodF x.1.1 x.1.2.2.2
theorem sq_bd {q : Int} (h0 : -1048577 ≤ q) (h1 : q ≤ 1048577) : 0 ≤ q * q ∧ q * q ≤ 1099513724929 := by
  by_cases c : 0 ≤ q
  · have := mul_le c h1 c h1; omega
  · have := mul_le (a := -q) (b := -q) (c := 1048577) (d := 1048577) (by omega) (by omega) (by omega) (by omega)
    rw [Int.neg_mul_neg] at this; omega
theorem rq_bd {r q : Int} (h0 : -1048577 ≤ q) (h1 : q ≤ 1048577) (r0 : 0 ≤ r) (r1 : r ≤ 4456448) : 0 ≤ r * (q * q) ∧ r * (q * q) ≤ 4899925756640788992 ∧ -4672930000000 ≤ r * q ∧ r * q ≤ 4672930000000 := by
  have s := sq_bd h0 h1
  have := mul_le r0 r1 s.1 s.2
  refine ⟨this.1, by omega, ?_, ?_⟩
  · have := mul_le r0 r1 (show 0 ≤ 1048577 by omega) (Int.le_refl 1048577)
    have := Int.mul_le_mul_of_nonneg_left (show -1048577 ≤ q by omega) r0
    omega
  · have := mul_le r0 r1 (show 0 ≤ 1048577 by omega) (Int.le_refl 1048577)
    have := Int.mul_le_mul_of_nonneg_left (show q ≤ 1048577 by omega) r0
    omega
include hN in
theorem pipe_loop {p : Pi} (hp : PipeOk p) {q : Int} (h0 : -1048577 ≤ q) (h1 : q ≤ 1048577) (a b : Int) (ha : -5000000000000000000 ≤ a ∧ a ≤ 5000000000000000000) (hb : -5000000000000000000 ≤ b ∧ b ≤ 5000000000000000000) (k : Int → Int → Option β) :
    F49.l8 N N q 0 0 a b p.2.2 (p.2.2.length : Int) 0 (fun _ _ _ z16 z17 _ _ _ _ => k z16 z17) = k (a - (bsum p.2.2 q).2) (b - (bsum p.2.2 q).1) := by
  have hl := hp.len
  obtain ⟨s, hs, e⟩ := lfor (len := p.2.2.length) (L := fun n j (m : Sp) => F49.l8 N n q 0 0 m.1 m.2 p.2.2 (p.2.2.length : Int) (j : Int) (fun _ _ _ z16 z17 _ _ _ _ => k z16 z17)) (k := fun m => k m.1 m.2)
    (fun j m => m = (a - (bsum (p.2.2.take j) q).2, b - (bsum (p.2.2.take j) q).1))
    (fun n m hm => by simp only [F49.l8, res]; rw [if_neg (by omega)])
    (fun j m hj hm => by
      obtain ⟨x, hx⟩ := getl hj
      have hg := hp.fan x (List.mem_of_getElem? hx)
      have bd := fs_bd (z := p.2.2.take j) (n := 8) (fun y hy => hp.fan y (List.mem_of_mem_take hy)) (by simp only [List.length_take]; omega) q
      have bx := sure_bd hg x.1.2.1 x.2 q
      refine ⟨_, rfl, fun n => ?_⟩
      subst hm
      simp only [F49.l8, res, Int.toNat_natCast, hx, ge_some, w_succ (show j < 4000000000 by omega), fan_Sure hN hg _ _ _ _ (show -9223372036854775807 ≤ q by omega) (show q ≤ 9223372036854775807 by omega)]
      rw [if_pos (by omega), if_pos (by omega), bsum_take hx, w_id (by omega) (by omega), w_id (by omega) (by omega)]
      simp only [Int.sub_sub]) 0 (a, b) N (by simp [bsum, sumS]) (by omega) (by omega)
  refine e.trans ?_
  rw [hs, List.take_of_length_le (Nat.le_refl _)]
include hN in
theorem pipe_Drop {p : Pi} (hp : PipeOk p) {q : Int} (h0 : -1048577 ≤ q) (h1 : q ≤ 1048577) (k : Int → Int → Option β) :
    F49.C N p.1.1 p.1.2.1 p.1.2.2.1 p.1.2.2.2.1 p.1.2.2.2.2.1 p.1.2.2.2.2.2.1 p.1.2.2.2.2.2.2.1.1 p.1.2.2.2.2.2.2.1.2 p.1.2.2.2.2.2.2.2.1 p.1.2.2.2.2.2.2.2.2 p.2.1 p.2.2 q k = k (pdrop p q).1 (pdrop p q).2 := by
  have s := sq_bd h0 h1
  obtain ⟨r0, r1, r2⟩ := hp.rest
  obtain ⟨l0, l1, l2⟩ := hp.lift
  have b1 := rq_bd h0 h1 (show 0 ≤ p.1.2.2.2.2.2.2.1.1 by omega) (by omega)
  have b2 := rq_bd h0 h1 (show 0 ≤ p.1.2.2.2.2.2.2.1.2 by omega) r2
  rw [F49.C_eq]; unfold F49.K pdrop drp
  simp only [res]
  by_cases c : q < 0
  · rw [if_pos c, if_pos c, w_id (x := q * q) (by omega) (by omega), w_id (x := 0 - _) (by omega) (by omega), w_id (x := 0 - _) (by omega) (by omega), Int.zero_sub, Int.zero_sub, Int.neg_mul, Int.neg_mul]
    rw [w_id (x := -(_ * _)) (by omega) (by omega), w_id (x := -(_ * _)) (by omega) (by omega), w_id (x := -(_ * _) - _) (by omega) (by omega), w_id (x := -(_ * _) - _) (by omega) (by omega)]
    exact pipe_loop hN hp h0 h1 _ _ (by omega) (by omega) k
  · rw [if_neg c, if_neg c, w_id (x := q * q) (by omega) (by omega)]
    rw [w_id (x := _ * (q * q)) (by omega) (by omega), w_id (x := _ * (q * q)) (by omega) (by omega), w_id (x := _ * _ - _) (by omega) (by omega), w_id (x := _ * _ - _) (by omega) (by omega)]
    exact pipe_loop hN hp h0 h1 _ _ (by omega) (by omega) k
theorem half (a b : Int) (h : a ≤ b) : Int.tdiv (b - a) 2 = (b - a) / 2 := Int.tdiv_eq_ediv_of_nonneg (by omega)
include hN in
theorem pipe_Low {p : Pi} (hp : PipeOk p) (d : Int) (k : Int → Option β) :
    F42.C N p.1.1 p.1.2.1 p.1.2.2.1 p.1.2.2.2.1 p.1.2.2.2.2.1 p.1.2.2.2.2.2.1 p.1.2.2.2.2.2.2.1.1 p.1.2.2.2.2.2.2.1.2 p.1.2.2.2.2.2.2.2.1 p.1.2.2.2.2.2.2.2.2 p.2.1 p.2.2 d k = k (fLow (pdrop p) d) := by
  rw [F42.C_eq]; unfold F42.K fLow
  have := lsl (L := fun n lo hi => F42.l2 N n d p.1.1 p.1.2.1 p.1.2.2.1 p.1.2.2.2.1 p.1.2.2.2.2.1 p.1.2.2.2.2.2.1 p.1.2.2.2.2.2.2.1.1 p.1.2.2.2.2.2.2.1.2 p.1.2.2.2.2.2.2.2.1 p.1.2.2.2.2.2.2.2.2 p.2.1 p.2.2 0 lo hi fun _ _ _ _ _ _ _ _ _ _ _ _ _ _ z17 _ _ => k z17) (k := k) (a := -1048577) (b := 1048576)
    (fun q => decide ((pdrop p q).2 ≤ d)) (fun n lo hi hl => by simp only [F42.l2, res]; rw [if_neg hl]) (fun n lo hi h0 h1 hl => by
      simp only [F42.l2, res]
      rw [if_pos hl, w_id (x := hi - lo) (by omega) (by omega), w_id (x := hi - lo + 1) (by omega) (by omega), Int.tdiv_eq_ediv_of_nonneg (by omega), w_id (x := (hi - lo + 1) / 2) (by omega) (by omega), w_id (x := lo + (hi - lo + 1) / 2) (by omega) (by omega),
        pipe_Drop hN hp (by omega) (by omega), w_id (x := _ - 1) (by omega) (by omega)]
      simp only [decide_eq_true_eq]) (N - 1) (-1048577) 1048576 (by omega) (by omega) (by
      have : (2 : Int) ^ 22 ≤ 2 ^ (N - 1) := by exact_mod_cast Nat.pow_le_pow_right (by omega) (show 22 ≤ N - 1 by omega)
      omega)
  rw [show N - 1 + 1 = N by omega] at this
  refine this.trans ?_
  have e := bsl_more (fun q => decide ((pdrop p q).2 ≤ d)) 22 (-1048577) 1048576 (by decide) (N - 1 - 22)
  rw [show 22 + (N - 1 - 22) = N - 1 by omega] at e
  rw [e]
include hN in
theorem pipe_High {p : Pi} (hp : PipeOk p) (d : Int) (k : Int → Option β) :
    F43.C N p.1.1 p.1.2.1 p.1.2.2.1 p.1.2.2.2.1 p.1.2.2.2.2.1 p.1.2.2.2.2.2.1 p.1.2.2.2.2.2.2.1.1 p.1.2.2.2.2.2.2.1.2 p.1.2.2.2.2.2.2.2.1 p.1.2.2.2.2.2.2.2.2 p.2.1 p.2.2 d k = k (fHigh (pdrop p) d) := by
  rw [F43.C_eq]; unfold F43.K fHigh
  have := lsh (L := fun n lo hi => F43.l2 N n d p.1.1 p.1.2.1 p.1.2.2.1 p.1.2.2.2.1 p.1.2.2.2.2.1 p.1.2.2.2.2.2.1 p.1.2.2.2.2.2.2.1.1 p.1.2.2.2.2.2.2.1.2 p.1.2.2.2.2.2.2.2.1 p.1.2.2.2.2.2.2.2.2 p.2.1 p.2.2 0 lo hi fun _ _ _ _ _ _ _ _ _ _ _ _ _ _ z17 _ _ => k z17) (k := k) (a := -1048576) (b := 1048577)
    (fun q => decide ((pdrop p q).1 ≥ d)) (fun n lo hi hl => by simp only [F43.l2, res]; rw [if_neg hl]) (fun n lo hi h0 h1 hl => by
      simp only [F43.l2, res]
      rw [if_pos hl, w_id (x := hi - lo) (by omega) (by omega), Int.tdiv_eq_ediv_of_nonneg (by omega), w_id (x := (hi - lo) / 2) (by omega) (by omega), w_id (x := lo + (hi - lo) / 2) (by omega) (by omega),
        pipe_Drop hN hp (by omega) (by omega), w_id (x := _ + 1) (by omega) (by omega)]
      simp only [decide_eq_true_eq]) (N - 1) (-1048576) 1048577 (by omega) (by omega) (by
      have : (2 : Int) ^ 22 ≤ 2 ^ (N - 1) := by exact_mod_cast Nat.pow_le_pow_right (by omega) (show 22 ≤ N - 1 by omega)
      omega)
  rw [show N - 1 + 1 = N by omega] at this
  refine this.trans ?_
  have e := bsh_more (fun q => decide ((pdrop p q).1 ≥ d)) 22 (-1048576) 1048577 (by decide) (N - 1 - 22)
  rw [show 22 + (N - 1 - 22) = N - 1 by omega] at e
  rw [e]
end Go.Vi.B
/- minecontrol/minecontroldraw.New -/
namespace Go.Vi.B
open Go.Proofs
set_option linter.unusedVariables false
set_option maxRecDepth 100000
abbrev F8.i : Sh := [(0, .one (.lst .pin 5 (.int .u8)))]
abbrev F8.o0 : Sh := [(0, .one (.addr 0 0)), (1, .slot false [.lst .pin 5 (.int .u8), .i])]
noncomputable def F8.K {β : Type} (N : Nat) (a0 : List Int) (k0 : List Int → Int → Option β) : Option β :=
 ck (0 ≤ (if 300 < (a0.length : Int) then 300 else (a0.length : Int))) <|
 ck ((if 300 < (a0.length : Int) then 300 else (a0.length : Int)).toNat ≤ a0.length) <|
 k0 ((a0.take ((if 300 < (a0.length : Int) then 300 else (a0.length : Int)).toNat)).drop 0) 0
noncomputable def F8.fx : Fx := ⟨Try.prog, [], [], [(0,[0]),(1,[2])], 10, []⟩
noncomputable def F8.cs (N : Nat) : List (Ctr Try.prog) := []
noncomputable def F8.C {β : Type} (N : Nat) := (Sealed fun β => @F8.K β).1 β N
theorem F8.C_eq {β : Type} (N : Nat) : @F8.C β N = @F8.K β N := congrFun (congrFun (Sealed fun β => @F8.K β).2 β) N
noncomputable def F8.X (N : Nat) : Ctr Try.prog := mkF 8 Try.f8 F8.fx (F8.cs N) [] F8.i (fun x k => F8.C N x.1 (fun r0 r1 => k (Sh.mk F8.o0 (r0, r1, ())))) (by intros; rw [F8.C_eq]; kernel_rfl) (by kernel_rfl) (by kernel_rfl) (by kernel_rfl) (by kernel_rfl) rfl (by kernel_rfl) rfl (by kernel_rfl) (by kernel_rfl) (by kernel_rfl) (.dead _ 8) rfl
end Go.Vi.B
/- minecontrol/minecontroldraw.Mod -/
namespace Go.Vi.B
open Go.Proofs
set_option linter.unusedVariables false
set_option maxRecDepth 100000
abbrev F18.i : Sh := [(0, .one .i), (2, .one .i)]
abbrev F18.o0 : Sh := [(0, .one .i)]
noncomputable def F18.K {β : Type} (N : Nat) (a0 a1 : Int) (k0 : Int → Option β) : Option β :=
 br (a1 < 1) (k0 0) <|
 cn (a1 = 0) <|
 br ((Int.tmod a0 a1) < 0) (k0 (w ((Int.tmod a0 a1) + a1))) <|
 k0 (Int.tmod a0 a1)
noncomputable def F18.fx : Fx := ⟨Try.prog, [], [], [(0,[0,1]),(1,[0,1,6]),(2,[4]),(3,[0,1]),(4,[0,1,11]),(5,[0]),(6,[4])], 16, []⟩
noncomputable def F18.cs (N : Nat) : List (Ctr Try.prog) := []
noncomputable def F18.C {β : Type} (N : Nat) := (Sealed fun β => @F18.K β).1 β N
theorem F18.C_eq {β : Type} (N : Nat) : @F18.C β N = @F18.K β N := congrFun (congrFun (Sealed fun β => @F18.K β).2 β) N
noncomputable def F18.X (N : Nat) : Ctr Try.prog := mkF 18 Try.f18 F18.fx (F18.cs N) [] F18.i (fun x k => F18.C N x.1 x.2.1 (fun r0 => k (Sh.mk F18.o0 (r0, ())))) (by intros; rw [F18.C_eq]; kernel_rfl) (by kernel_rfl) (by kernel_rfl) (by kernel_rfl) (by kernel_rfl) rfl (by kernel_rfl) rfl (by kernel_rfl) (by kernel_rfl) (by kernel_rfl) (.dead _ 18) rfl
end Go.Vi.B
/- (*minecontrol/minecontroldraw.Codes).Next -/
namespace Go.Vi.B
open Go.Proofs
set_option linter.unusedVariables false
set_option maxRecDepth 100000
abbrev F23.i : Sh := [(0, .one (.addr 0 0)), (1, .slot false [.lst .pin 5 (.int .u8), .i]), (2, .one .i)]
abbrev F23.o0 : Sh := [(0, .one .i), (2, .one (.addr 1 0)), (3, .slot false [.lst .pin 5 (.int .u8), .i])]
noncomputable def F23.K {β : Type} (N : Nat) (a0 : List Int) (a1 a2 : Int) (k0 : Int → List Int → Int → Option β) : Option β :=
 br (a2 < 1) (k0 0 a0 a1) <|
 br (a1 ≥ (a0.length : Int)) (k0 0 a0 a1) <|
 ck (0 ≤ (w ((w (a1 + 1)) - 1))) <|
 ge (a0[(w ((w (a1 + 1)) - 1)).toNat]?) fun x1 =>
 bl (a2 > 256) (
  cn (a2 = 0) <|
  k0 (Int.tmod (w (x1)) a2) a0 (w (a1 + 1))) <|
 bl ((w (a1 + 1)) < (a0.length : Int)) (
  cn (a2 = 0) <|
  k0 (Int.tmod (w (x1)) a2) a0 (w (a1 + 1))) <|
 ck (0 ≤ (w (a1 + 1))) <|
 ge (a0[(w (a1 + 1)).toNat]?) fun x2 =>
 cn (a2 = 0) <|
 k0 (Int.tmod (w ((w ((w (x1)) * 256)) + (w (x2)))) a2) a0 (w ((w (a1 + 1)) + 1))
noncomputable def F23.fx : Fx := ⟨Try.prog, [], [], [(0,[0,1]),(1,[0,1,19]),(2,[0,4]),(3,[0,1]),(4,[0,1,5]),(5,[0,1,5,52]),(6,[0,1,5]),(7,[0,1,5]),(8,[0,4])], 77, [0]⟩
noncomputable def F23.cs (N : Nat) : List (Ctr Try.prog) := []
noncomputable def F23.C {β : Type} (N : Nat) := (Sealed fun β => @F23.K β).1 β N
theorem F23.C_eq {β : Type} (N : Nat) : @F23.C β N = @F23.K β N := congrFun (congrFun (Sealed fun β => @F23.K β).2 β) N
noncomputable def F23.X (N : Nat) : Ctr Try.prog := mkF 23 Try.f23 F23.fx (F23.cs N) [] F23.i (fun x k => F23.C N x.1 x.2.1 x.2.2.1 (fun r0 r1 r2 => k (Sh.mk F23.o0 (r0, r1, r2, ())))) (by intros; rw [F23.C_eq]; kernel_rfl) (by kernel_rfl) (by kernel_rfl) (by kernel_rfl) (by kernel_rfl) rfl (by kernel_rfl) rfl (by kernel_rfl) (by kernel_rfl) (by kernel_rfl) (.dead _ 23) rfl
end Go.Vi.B
/- (*minecontrol/minecontroldraw.Codes).Range -/
namespace Go.Vi.B
open Go.Proofs
set_option linter.unusedVariables false
set_option maxRecDepth 100000
abbrev F24.i : Sh := [(0, .one (.addr 0 0)), (1, .slot false [.lst .pin 5 (.int .u8), .i]), (2, .one .i), (4, .one .i)]
abbrev F24.o0 : Sh := [(0, .one .i), (2, .one (.addr 1 0)), (3, .slot false [.lst .pin 5 (.int .u8), .i])]
noncomputable def F24.K {β : Type} (N : Nat) (a0 : List Int) (a1 a2 a3 : Int) (k0 : Int → List Int → Int → Option β) : Option β :=
 F23.C N a0 a1 (w ((w (a3 - a2)) + 1)) fun r1 r2 r3 =>
 k0 (w (a2 + r1)) r2 r3
noncomputable def F24.fx : Fx := ⟨Try.prog, [], [], [(0,[0,1,2]),(1,[0,6])], 15, [0]⟩
noncomputable def F24.cs (N : Nat) : List (Ctr Try.prog) := [F23.X N]
noncomputable def F24.C {β : Type} (N : Nat) := (Sealed fun β => @F24.K β).1 β N
theorem F24.C_eq {β : Type} (N : Nat) : @F24.C β N = @F24.K β N := congrFun (congrFun (Sealed fun β => @F24.K β).2 β) N
noncomputable def F24.X (N : Nat) : Ctr Try.prog := mkF 24 Try.f24 F24.fx (F24.cs N) [] F24.i (fun x k => F24.C N x.1 x.2.1 x.2.2.1 x.2.2.2.1 (fun r0 r1 r2 => k (Sh.mk F24.o0 (r0, r1, r2, ())))) (by intros; rw [F24.C_eq]; kernel_rfl) (by kernel_rfl) (by kernel_rfl) (by kernel_rfl) (by kernel_rfl) rfl (by kernel_rfl) rfl (by kernel_rfl) (by kernel_rfl) (by kernel_rfl) (.dead _ 24) rfl
end Go.Vi.B
/- (*minecontrol/minecontroldraw.Codes).Road -/
namespace Go.Vi.B
open Go.Proofs
set_option linter.unusedVariables false
set_option maxRecDepth 100000
abbrev F25.i : Sh := [(0, .one (.addr 0 0)), (1, .slot false [.lst .pin 5 (.int .u8), .i]), (2, .one .i), (4, .one .i)]
abbrev F25.o0 : Sh := [(0, .agg [.i, .i, .i, .i, .bool, .bool, .i, .i, .i, .i]), (2, .one (.addr 1 0)), (3, .slot false [.lst .pin 5 (.int .u8), .i])]
noncomputable def F25.K {β : Type} (N : Nat) (a0 : List Int) (a1 a2 a3 : Int) (k0 : Int → Int → Int → Int → Bool → Bool → Int → Int → Int → Int → List Int → Int → Option β) : Option β :=
 F24.C N a0 a1 1 400 fun r1 r2 r3 =>
 F24.C N r2 r3 4 30 fun r4 r5 r6 =>
 F23.C N r5 r6 4 fun r7 r8 r9 =>
 F24.C N r8 r9 1 20 fun r10 r11 r12 =>
 F23.C N r11 r12 3 fun r13 r14 r15 =>
 F24.C N r14 r15 (-300) 300 fun r16 r17 r18 =>
 F23.C N r17 r18 20 fun r19 r20 r21 =>
 k0 a2 a3 r1 r4 (decide (r7 > 0)) false r10 (w (r10 + r13)) r16 (w (r16 + r19)) r20 r21
noncomputable def F25.fx : Fx := ⟨Try.prog, [6], [], [(0,[0,1,2,6]),(1,[0,6,7]),(2,[0,6,7]),(3,[0,6,7]),(4,[0,6,7]),(5,[0,6])], 42, [0]⟩
noncomputable def F25.cs (N : Nat) : List (Ctr Try.prog) := [F24.X N, F23.X N]
noncomputable def F25.C {β : Type} (N : Nat) := (Sealed fun β => @F25.K β).1 β N
theorem F25.C_eq {β : Type} (N : Nat) : @F25.C β N = @F25.K β N := congrFun (congrFun (Sealed fun β => @F25.K β).2 β) N
noncomputable def F25.X (N : Nat) : Ctr Try.prog := mkF 25 Try.f25 F25.fx (F25.cs N) [] F25.i (fun x k => F25.C N x.1 x.2.1 x.2.2.1 x.2.2.2.1 (fun r0 r1 r2 r3 r4 r5 r6 r7 r8 r9 r10 r11 => k (Sh.mk F25.o0 (r0, r1, r2, r3, r4, r5, r6, r7, r8, r9, r10, r11, ())))) (by intros; rw [F25.C_eq]; kernel_rfl) (by kernel_rfl) (by kernel_rfl) (by kernel_rfl) (by kernel_rfl) rfl (by kernel_rfl) rfl (by kernel_rfl) (by kernel_rfl) (by kernel_rfl) (.dead _ 25) rfl
end Go.Vi.B
/- (*minecontrol/minecontroldraw.Codes).One -/
namespace Go.Vi.B
open Go.Proofs
set_option linter.unusedVariables false
set_option maxRecDepth 100000
abbrev F22.i : Sh := [(0, .one (.addr 0 0)), (1, .slot false [.lst .pin 5 (.int .u8), .i]), (2, .one .i)]
abbrev F22.o0 : Sh := [(0, .one .bool), (2, .one (.addr 1 0)), (3, .slot false [.lst .pin 5 (.int .u8), .i])]
noncomputable def F22.K {β : Type} (N : Nat) (a0 : List Int) (a1 a2 : Int) (k0 : Bool → List Int → Int → Option β) : Option β :=
 F23.C N a0 a1 a2 fun r1 r2 r3 =>
 k0 (decide (r1 = (w (a2 - 1)))) r2 r3
noncomputable def F22.fx : Fx := ⟨Try.prog, [], [], [(0,[0,1]),(1,[0,4])], 11, [0]⟩
noncomputable def F22.cs (N : Nat) : List (Ctr Try.prog) := [F23.X N]
noncomputable def F22.C {β : Type} (N : Nat) := (Sealed fun β => @F22.K β).1 β N
theorem F22.C_eq {β : Type} (N : Nat) : @F22.C β N = @F22.K β N := congrFun (congrFun (Sealed fun β => @F22.K β).2 β) N
noncomputable def F22.X (N : Nat) : Ctr Try.prog := mkF 22 Try.f22 F22.fx (F22.cs N) [] F22.i (fun x k => F22.C N x.1 x.2.1 x.2.2.1 (fun r0 r1 r2 => k (Sh.mk F22.o0 (r0, r1, r2, ())))) (by intros; rw [F22.C_eq]; kernel_rfl) (by kernel_rfl) (by kernel_rfl) (by kernel_rfl) (by kernel_rfl) rfl (by kernel_rfl) rfl (by kernel_rfl) (by kernel_rfl) (by kernel_rfl) (.dead _ 22) rfl
end Go.Vi.B
/- (*minecontrol/minecontroldraw.Codes).Curve -/
namespace Go.Vi.B
open Go.Proofs
set_option linter.unusedVariables false
set_option maxRecDepth 100000
abbrev F50.i : Sh := [(0, .one (.addr 0 0)), (1, .slot false [.lst .pin 5 (.int .u8), .i])]
abbrev F50.o0 : Sh := [(0, .one (.view 0 0)), (1, .slot true [.lst .own 116 kd0]), (2, .one (.addr 1 0)), (3, .slot false [.lst .pin 5 (.int .u8), .i])]
noncomputable def F50.l3 {β : Type} (N : Nat) : Nat → (List Int) → Int → (List Sp) → (List Sp) → Int → (List Int → Int → List Sp → List Sp → Int → Bool → Option β) → Option β
 | 0, _, _, _, _, _, _ => none
 | n + 1, v0, v1, v2, v3, v4, k0 =>
  bl (v4 > 0) (k0 v0 v1 v2 v3 v4 (decide (v4 > 0))) <|
  ck (0 ≤ (w ((v3.length : Int) - 1))) <|
  ge (v3[(w ((v3.length : Int) - 1)).toNat]?) fun _ =>
  ge (v3[(w ((v3.length : Int) - 1)).toNat]?) fun x2 =>
  F24.C N v0 v1 1 40 fun r3 r4 r5 =>
  F23.C N r4 r5 900 fun r6 r7 r8 =>
  ck (v3.length + 1 ≤ 1000000000) <|
  F50.l3 N n r7 r8 v2 (v3 ++ [((w (x2.1 + r3)), (if (w (x2.2 - r6)) > 0 then (w (x2.2 - r6)) else 0))]) (w (v4 - 1)) k0
noncomputable def F50.K {β : Type} (N : Nat) (a0 : List Int) (a1 : Int) (k0 : List Sp → List Int → Int → Option β) : Option β :=
 F24.C N a0 a1 (-20) 10 fun r1 r2 r3 =>
 F24.C N r2 r3 500 3000 fun r4 r5 r6 =>
 F23.C N r5 r6 4 fun r7 r8 r9 =>
 F50.l3 N N r8 r9 [] [(r1, r4)] r7 fun z10 z11 _ z13 _ _ =>
 k0 z13 z10 z11
noncomputable def F50.fx : Fx := ⟨Try.prog, [], [], [(0,[0,2]),(1,[0,2,3]),(2,[0,2,3,4]),(3,[0,2,3,4,15]),(4,[0,2,3,4]),(5,[0,2,3,4,5]),(6,[0,2,3,4]),(7,[0,2])], 40, [0]⟩
noncomputable def F50.cs (N : Nat) : List (Ctr Try.prog) := [F24.X N, F23.X N]
abbrev F50.s3 : Sh := [(0, .one (.addr 0 0)), (1, .slot false [.lst .pin 5 (.int .u8), .i]), (4, .one (.view 2 0)), (5, .slot true [.lst .own 116 kd0]), (6, .one (.view 3 0)), (7, .slot true [.lst .own 116 kd0]), (8, .one .i)]
abbrev F50.e3_0 : Sh := [(0, .one (.addr 0 0)), (1, .slot false [.lst .pin 5 (.int .u8), .i]), (4, .one (.view 2 0)), (5, .slot true [.lst .own 116 kd0]), (6, .one (.view 3 0)), (7, .slot true [.lst .own 116 kd0]), (8, .one .i), (30, .one .bool)]
noncomputable def F50.X3 (N : Nat) : LpC Try.prog F50.fx := mkL (F50.cs N) [] ((loopsOf (bodyOf Try.f50)).getD 0 .skip) 3 [0,2,3,4] (by kernel_rfl) (by kernel_rfl) (by kernel_rfl) F50.s3 (fun n x k => F50.l3 N n x.1 x.2.1 x.2.2.1 x.2.2.2.1 x.2.2.2.2.1 (fun r0 r1 r2 r3 r4 r5 => k (.exit 0) (Sh.mk F50.e3_0 (r0, r1, r2, r3, r4, r5, ())))) (fun _ _ => rfl) (fun _ _ _ => by kernel_rfl) N
noncomputable def F50.C {β : Type} (N : Nat) := (Sealed fun β => @F50.K β).1 β N
theorem F50.C_eq {β : Type} (N : Nat) : @F50.C β N = @F50.K β N := congrFun (congrFun (Sealed fun β => @F50.K β).2 β) N
noncomputable def F50.X (N : Nat) : Ctr Try.prog := mkF 50 Try.f50 F50.fx (F50.cs N) [F50.X3 N] F50.i (fun x k => F50.C N x.1 x.2.1 (fun r0 r1 r2 => k (Sh.mk F50.o0 (r0, r1, r2, ())))) (by intros; rw [F50.C_eq]; kernel_rfl) (by kernel_rfl) (by kernel_rfl) (by kernel_rfl) (by kernel_rfl) rfl (by kernel_rfl) rfl (by kernel_rfl) (by kernel_rfl) (by kernel_rfl) (.dead _ 50) rfl
end Go.Vi.B
/- (*minecontrol/minecontroldraw.Codes).Door -/
namespace Go.Vi.B
open Go.Proofs
set_option linter.unusedVariables false
set_option maxRecDepth 100000
abbrev F51.i : Sh := [(0, .one (.addr 0 0)), (1, .slot false [.lst .pin 5 (.int .u8), .i]), (2, .one .i)]
abbrev F51.o0 : Sh := [(0, .agg [.i, .i, .view 0 2]), (1, .slot true [.undef, .undef, .lst .own 3 .i]), (2, .one (.addr 1 0)), (3, .slot false [.lst .pin 5 (.int .u8), .i])]
noncomputable def F51.l3 {β : Type} (N : Nat) : Nat → (List Int) → Int → Int → Int → (List Int) → Int → Int → (List Int) → Int → (List Int → Int → Int → Int → List Int → Int → Int → List Int → Int → Bool → Option β) → Option β
 | 0, _, _, _, _, _, _, _, _, _, _ => none
 | n + 1, v0, v1, v2, v3, v4, v5, v6, v7, v8, k0 =>
  bl (v8 > 0) (k0 v0 v1 v2 v3 v4 v5 v6 v7 v8 (decide (v8 > 0))) <|
  ck (0 ≤ (w ((v7.length : Int) - 1))) <|
  ge (v7[(w ((v7.length : Int) - 1)).toNat]?) fun _ =>
  ge (v7[(w ((v7.length : Int) - 1)).toNat]?) fun x2 =>
  F24.C N v0 v1 1 60 fun r3 r4 r5 =>
  ck (v7.length + 1 ≤ 1000000000) <|
  F51.l3 N n r4 r5 v2 v3 v4 v5 v6 (v7 ++ [(if (w (x2 - r3)) > 0 then (w (x2 - r3)) else 0)]) (w (v8 - 1)) k0
noncomputable def F51.K {β : Type} (N : Nat) (a0 : List Int) (a1 a2 : Int) (k0 : Int → Int → List Int → List Int → Int → Option β) : Option β :=
 F24.C N a0 a1 200 900 fun r1 r2 r3 =>
 F24.C N r2 r3 1 3 fun r4 r5 r6 =>
 F51.l3 N N r5 r6 0 0 [] a2 (-1) [r1] r4 fun z7 z8 _ _ _ z12 z13 z14 _ _ =>
 k0 z12 z13 z14 z7 z8
noncomputable def F51.fx : Fx := ⟨Try.prog, [4], [], [(0,[0,1,4]),(1,[0,4,5]),(2,[0,4,5,6]),(3,[0,4,5,6,15]),(4,[0,4,5,6]),(5,[0,4,5,6]),(6,[0,4])], 36, [0]⟩
noncomputable def F51.cs (N : Nat) : List (Ctr Try.prog) := [F24.X N]
abbrev F51.s3 : Sh := [(0, .one (.addr 0 0)), (1, .slot false [.lst .pin 5 (.int .u8), .i]), (8, .one (.addr 4 0)), (9, .slot false [.i, .i, .lst .own 3 .i]), (10, .one (.addr 5 0)), (11, .slot false [.i, .i, .lst .own 3 .i]), (12, .one .i)]
abbrev F51.e3_0 : Sh := [(0, .one (.addr 0 0)), (1, .slot false [.lst .pin 5 (.int .u8), .i]), (8, .one (.addr 4 0)), (9, .slot false [.i, .i, .lst .own 3 .i]), (10, .one (.addr 5 0)), (11, .slot false [.i, .i, .lst .own 3 .i]), (12, .one .i), (30, .one .bool)]
noncomputable def F51.X3 (N : Nat) : LpC Try.prog F51.fx := mkL (F51.cs N) [] ((loopsOf (bodyOf Try.f51)).getD 0 .skip) 3 [0,4,5,6] (by kernel_rfl) (by kernel_rfl) (by kernel_rfl) F51.s3 (fun n x k => F51.l3 N n x.1 x.2.1 x.2.2.1 x.2.2.2.1 x.2.2.2.2.1 x.2.2.2.2.2.1 x.2.2.2.2.2.2.1 x.2.2.2.2.2.2.2.1 x.2.2.2.2.2.2.2.2.1 (fun r0 r1 r2 r3 r4 r5 r6 r7 r8 r9 => k (.exit 0) (Sh.mk F51.e3_0 (r0, r1, r2, r3, r4, r5, r6, r7, r8, r9, ())))) (fun _ _ => rfl) (fun _ _ _ => by kernel_rfl) N
noncomputable def F51.C {β : Type} (N : Nat) := (Sealed fun β => @F51.K β).1 β N
theorem F51.C_eq {β : Type} (N : Nat) : @F51.C β N = @F51.K β N := congrFun (congrFun (Sealed fun β => @F51.K β).2 β) N
noncomputable def F51.X (N : Nat) : Ctr Try.prog := mkF 51 Try.f51 F51.fx (F51.cs N) [F51.X3 N] F51.i (fun x k => F51.C N x.1 x.2.1 x.2.2.1 (fun r0 r1 r2 r3 r4 => k (Sh.mk F51.o0 (r0, r1, r2, r3, r4, ())))) (by intros; rw [F51.C_eq]; kernel_rfl) (by kernel_rfl) (by kernel_rfl) (by kernel_rfl) (by kernel_rfl) rfl (by kernel_rfl) rfl (by kernel_rfl) (by kernel_rfl) (by kernel_rfl) (.dead _ 51) rfl
end Go.Vi.B
/- Codes: what is chosen; roads, curves and doors that are made. -/
namespace Go.Vi.A
/-- The state of codes. -/
structure Cod (l : List Int) (a : Int) : Prop where
  lo : 0 ≤ a
  hi : a ≤ l.length
  le : l.length ≤ 300
  rng : ∀ x ∈ l, 0 ≤ x ∧ x ≤ 255
theorem tmod_bd {v n : Int} (hv : 0 ≤ v) (hn : 0 < n) : 0 ≤ Int.tmod v n ∧ Int.tmod v n < n := by
  rw [Int.tmod_eq_emod_of_nonneg hv]; exact ⟨Int.emod_nonneg _ (by omega), Int.emod_lt_of_pos _ hn⟩
/-- A number that is chosen. -/
structure Nx (n r : Int) : Prop where
  lo : 0 ≤ r
  hi : 1 ≤ n → r < n
  z : n ≤ 0 → r = 0
/-- The points that are made. -/
structure Pts (l : List Sp) : Prop where
  ne : 1 ≤ l.length
  le : l.length ≤ 4
  f0 : ∀ i, i < l.length → -20 ≤ (ptAt l i).1 ∧ (ptAt l i).1 ≤ 10 + 40 * (i : Int)
  f1 : ∀ i, i < l.length → 0 ≤ (ptAt l i).2 ∧ (ptAt l i).2 ≤ 3000
  up : ∀ i, i + 1 < l.length → (ptAt l i).1 < (ptAt l (i + 1)).1 ∧ (ptAt l (i + 1)).2 ≤ (ptAt l i).2
theorem Pts.good {l : List Sp} (h : Pts l) {r : Int} (hr : 0 ≤ r) : GoodF r l := by
  have h1 := h.ne; have h2 := h.le
  refine ⟨hr, h1, by omega, fun i hi => ?_, fun i hi => ?_⟩
  · have a := h.f0 i hi; have b := h.f1 i hi
    unfold badR; omega
  · unfold badO
    intro ⟨h0, hc⟩
    have := h.up (i - 1) (by omega)
    rw [show i - 1 + 1 = i by omega] at this
    omega
theorem cv_max {r : Int} {l : List Sp} (h : GoodF r l) {M : Int} (hM : (ptAt l 0).2 ≤ M) (q : Int) : 0 ≤ (cv l q).1 ∧ (cv l q).1 ≤ (cv l q).2 ∧ (cv l q).2 ≤ M := by
  obtain ⟨t, e, hc, h0, h1⟩ := good_cons h
  generalize ptAt l 0 = a at *
  subst e
  have := cv_bd t a hc h0 q; omega
theorem sure_max {r : Int} {l : List Sp} (h : GoodF r l) {M : Int} (hM : (ptAt l 0).2 ≤ M) (h0 : 0 ≤ M) (b : Bool) (s q : Int) : -M ≤ (sure l b s q).1 ∧ (sure l b s q).1 ≤ (sure l b s q).2 ∧ (sure l b s q).2 ≤ M := by
  have g : ∀ b, -M ≤ (al l b q).1 ∧ (al l b q).1 ≤ (al l b q).2 ∧ (al l b q).2 ≤ M := fun b => by
    have h1 := cv_max h hM q; have h2 := cv_max h hM (-q)
    unfold al; split <;> (try simp only []) <;> omega
  have h1 := g b; have h2 := g (!b); have h3 := g true; have h4 := g false
  unfold sure; split
  · exact h1
  · split
    · exact h2
    · split
      · simp only []; omega
      · simp only []; omega
theorem sure_unknown {l : List Sp} {b : Bool} {s q : Int} (h0 : 0 ≤ s) (h1 : s ≤ 2) : (sure l b (-1) q).1 ≤ (sure l b s q).1 ∧ (sure l b s q).2 ≤ (sure l b (-1) q).2 := by
  have e : sure l b (-1) q = (min 0 (min (al l false q).1 (al l true q).1), max 0 (max (al l false q).2 (al l true q).2)) := rfl
  rw [e]
  unfold sure
  by_cases c1 : s = 1
  · rw [if_pos c1]; cases b <;> simp only [] <;> omega
  by_cases c2 : s = 2
  · rw [if_neg c1, if_pos c2]; cases b <;> simp only [Bool.not_false, Bool.not_true] <;> omega
  · rw [if_neg c1, if_neg c2, if_neg (by omega)]; simp only []; omega
theorem snoc_get {α : Type} {l : List α} {x : α} {i : Nat} {y : α} (h : (l ++ [x])[i]? = some y) : (i < l.length ∧ l[i]? = some y) ∨ (i = l.length ∧ y = x) := by
  by_cases c : i < l.length
  · rw [List.getElem?_append_left c] at h; exact .inl ⟨c, h⟩
  · have := idx h
    simp only [List.length_append, List.length_singleton] at this
    obtain rfl : i = l.length := by omega
    rw [List.getElem?_append_right (Nat.le_refl _)] at h
    simp at h
    exact .inr ⟨rfl, h.symm⟩
theorem ptAt_snoc_lt {l : List Sp} {x : Sp} {i : Nat} (h : i < l.length) : ptAt (l ++ [x]) i = ptAt l i := by
  simp [ptAt, List.getD_eq_getElem?_getD, List.getElem?_append_left h]
theorem ptAt_snoc_eq (l : List Sp) (x : Sp) : ptAt (l ++ [x]) l.length = x := by simp [ptAt, List.getD_eq_getElem?_getD]
/-- The resistances of a door that is made. -/
structure Rst (l : List Int) : Prop where
  two : 2 ≤ l.length
  le : l.length ≤ 4
  rng : ∀ x ∈ l, 0 ≤ x ∧ x ≤ 900
  fall : ∀ j x, l[j]? = some x → 0 < j → x < l.getD (j - 1) 0
end Go.Vi.A
namespace Go.Vi.B
open Go.Proofs Go.Vi.A
set_option linter.unusedVariables false
set_option linter.unusedSimpArgs false
variable {β : Type} {N : Nat}
theorem draw_New {l0 : List Int} (hb : ∀ x ∈ l0, 0 ≤ x ∧ x ≤ 255) : ∃ l, Cod l 0 ∧ ∀ k : List Int → Int → Option β, F8.C N l0 k = k l 0 := by
  refine ⟨l0.take (min l0.length 300), ⟨by omega, by omega, by rw [List.length_take]; omega, fun x hx => hb x (List.mem_of_mem_take hx)⟩, fun k => ?_⟩
  rw [F8.C_eq]; unfold F8.K
  simp only [res]
  have e : (if (300 : Int) < (l0.length : Int) then (300 : Int) else (l0.length : Int)) = ((min l0.length 300 : Nat) : Int) := by split <;> omega
  rw [e, if_pos (by omega), if_pos (by omega), List.drop_zero, Int.toNat_natCast]
theorem draw_Mod (a n : Int) (hn : n ≤ 4611686018427387904) : ∃ r, Nx n r ∧ (1 ≤ n → r = a % n) ∧ ∀ k : Int → Option β, F18.C N a n k = k r := by
  by_cases h : n < 1
  · refine ⟨0, ⟨by omega, by omega, fun _ => rfl⟩, by omega, fun k => ?_⟩
    rw [F18.C_eq]; unfold F18.K; simp only [res]; rw [if_pos h]
  have hm := Int.tmod_eq_emod (a := a) (b := n)
  have h1 := Int.emod_nonneg a (show n ≠ 0 by omega)
  have h2 := Int.emod_lt_of_pos a (show 0 < n by omega)
  have hn' : (n.natAbs : Int) = n := by omega
  have hdv : n ∣ a ↔ a % n = 0 := Int.dvd_iff_emod_eq_zero
  refine ⟨a % n, ⟨h1, fun _ => h2, by omega⟩, fun _ => rfl, fun k => ?_⟩
  rw [F18.C_eq]; unfold F18.K; simp only [res]
  rw [if_neg h, if_neg (by omega)]
  by_cases c : 0 ≤ a ∨ n ∣ a
  · rw [if_pos c] at hm
    have hm : a.tmod n = a % n := by simpa using hm
    rw [hm, if_neg (by omega)]
  · rw [if_neg c, hn'] at hm
    have : a % n ≠ 0 := fun h => c (.inr (hdv.mpr h))
    rw [hm, if_pos (by omega), w_id (by omega) (by omega)]
    exact congrArg k (by omega)
theorem draw_Next {l : List Int} {a : Int} (h : Cod l a) (n : Int) : ∃ r a', Cod l a' ∧ Nx n r ∧ ∀ k : Int → List Int → Int → Option β, F23.C N l a n k = k r l a' := by
  have h1 := h.lo; have h2 := h.hi; have h3 := h.le
  by_cases c : n < 1
  · refine ⟨0, a, h, ⟨by omega, by omega, fun _ => rfl⟩, fun k => ?_⟩
    rw [F23.C_eq]; unfold F23.K; simp only [res]; rw [if_pos c]
  by_cases c2 : a ≥ (l.length : Int)
  · refine ⟨0, a, h, ⟨by omega, by omega, fun _ => rfl⟩, fun k => ?_⟩
    rw [F23.C_eq]; unfold F23.K; simp only [res]; rw [if_neg c, if_pos c2]
  obtain ⟨x, hx⟩ := geti (xs := l) h1 (by omega)
  have hx' := h.rng x (List.mem_of_getElem? hx)
  have e1 : w (a + 1) = a + 1 := w_id (by omega) (by omega)
  have e2 : w (a + 1 - 1) = a := by rw [w_id (by omega) (by omega)]; omega
  have e4 : w x = x := w_id (by omega) (by omega)
  by_cases c3 : n > 256 ∧ a + 1 < (l.length : Int)
  · obtain ⟨y, hy⟩ := geti (show 0 ≤ a + 1 by omega) c3.2
    have hy' := h.rng y (List.mem_of_getElem? hy)
    have b := tmod_bd (v := x * 256 + y) (n := n) (by omega) (by omega)
    refine ⟨Int.tmod (x * 256 + y) n, a + 1 + 1, ⟨by omega, by omega, h3, h.rng⟩, ⟨b.1, fun _ => b.2, by omega⟩, fun k => ?_⟩
    rw [F23.C_eq]; unfold F23.K; simp only [res, e1, e2, e4, hx, hy, ge_some]
    rw [if_neg c, if_neg c2, if_pos h1, if_pos c3.1, if_pos c3.2, if_pos (by omega), if_neg (by omega), w_id (x := x * 256) (by omega) (by omega), w_id (x := y) (by omega) (by omega), w_id (x := x * 256 + y) (by omega) (by omega), w_id (by omega) (by omega)]
  · have b := tmod_bd (v := x) (n := n) (by omega) (by omega)
    refine ⟨Int.tmod x n, a + 1, ⟨by omega, by omega, h3, h.rng⟩, ⟨b.1, fun _ => b.2, by omega⟩, fun k => ?_⟩
    rw [F23.C_eq]; unfold F23.K; simp only [res, e1, e2, e4, hx, ge_some]
    rw [if_neg c, if_neg c2, if_pos h1]
    by_cases d : n > 256
    · rw [if_pos d, if_neg (fun h => c3 ⟨d, h⟩), if_neg (by omega)]
    · rw [if_neg d, if_neg (by omega)]
theorem draw_Range {l : List Int} {a : Int} (h : Cod l a) {lo hi : Int} (h0 : -1000000000000 ≤ lo) (h1 : lo ≤ hi) (h2 : hi ≤ 1000000000000) :
    ∃ r a', Cod l a' ∧ lo ≤ r ∧ r ≤ hi ∧ ∀ k : Int → List Int → Int → Option β, F24.C N l a lo hi k = k r l a' := by
  obtain ⟨r, a', hc, hn, e⟩ := draw_Next (β := β) (N := N) h (hi - lo + 1)
  have r1 := hn.hi (by omega)
  have r0 := hn.lo
  refine ⟨lo + r, a', hc, by omega, by omega, fun k => ?_⟩
  rw [F24.C_eq]; unfold F24.K
  rw [w_id (x := hi - lo) (by omega) (by omega), w_id (x := hi - lo + 1) (by omega) (by omega), e, w_id (by omega) (by omega)]
theorem draw_One {l : List Int} {a : Int} (h : Cod l a) (n : Int) : ∃ b a', Cod l a' ∧ ∀ k : Bool → List Int → Int → Option β, F22.C N l a n k = k b l a' := by
  obtain ⟨r, a', hc, hn, e⟩ := draw_Next (β := β) (N := N) h n
  exact ⟨_, a', hc, fun k => by rw [F22.C_eq]; unfold F22.K; rw [e]⟩
/-- A road that is made. -/
theorem draw_Road {l : List Int} {a : Int} (h : Cod l a) (from_ to_ : Int) : ∃ ln ar wk r0 r1 l0 l1 a', Cod l a' ∧ (1 ≤ ln ∧ ln ≤ 400) ∧ (4 ≤ ar ∧ ar ≤ 30) ∧ (1 ≤ r0 ∧ r0 ≤ r1 ∧ r1 ≤ 22) ∧ (-300 ≤ l0 ∧ l0 ≤ l1 ∧ l1 ≤ 320) ∧
    ∀ k : Int → Int → Int → Int → Bool → Bool → Int → Int → Int → Int → List Int → Int → Option β, F25.C N l a from_ to_ k = k from_ to_ ln ar wk false r0 r1 l0 l1 l a' := by
  obtain ⟨ln, a1, c1, g1, g1', e1⟩ := draw_Range (β := β) (N := N) h (lo := 1) (hi := 400) (by omega) (by omega) (by omega)
  obtain ⟨ar, a2, c2, g2, g2', e2⟩ := draw_Range (β := β) (N := N) c1 (lo := 4) (hi := 30) (by omega) (by omega) (by omega)
  obtain ⟨wk, a3, c3, _, e3⟩ := draw_Next (β := β) (N := N) c2 4
  obtain ⟨r0, a4, c4, g4, g4', e4⟩ := draw_Range (β := β) (N := N) c3 (lo := 1) (hi := 20) (by omega) (by omega) (by omega)
  obtain ⟨d, a5, c5, n5, e5⟩ := draw_Next (β := β) (N := N) c4 3
  obtain ⟨l0, a6, c6, g6, g6', e6⟩ := draw_Range (β := β) (N := N) c5 (lo := -300) (hi := 300) (by omega) (by omega) (by omega)
  obtain ⟨f, a7, c7, n7, e7⟩ := draw_Next (β := β) (N := N) c6 20
  have := n5.lo; have := n5.hi (by omega); have := n7.lo; have := n7.hi (by omega)
  refine ⟨ln, ar, decide (wk > 0), r0, r0 + d, l0, l0 + f, a7, c7, by omega, by omega, by omega, by omega, fun k => ?_⟩
  rw [F25.C_eq]; unfold F25.K
  rw [e1, e2, e3, e4, e5, e6, e7, w_id (x := r0 + d) (by omega) (by omega), w_id (x := l0 + f) (by omega) (by omega)]
variable (hN : 1000 ≤ N)
include hN in
theorem draw_Curve {l : List Int} {a : Int} (h : Cod l a) : ∃ ys a', Cod l a' ∧ Pts ys ∧ ∀ k : List Sp → List Int → Int → Option β, F50.C N l a k = k ys l a' := by
  obtain ⟨r, a1, c1, g1, g1', e1⟩ := draw_Range (β := β) (N := N) h (lo := -20) (hi := 10) (by omega) (by omega) (by omega)
  obtain ⟨p, a2, c2, g2, g2', e2⟩ := draw_Range (β := β) (N := N) c1 (lo := 500) (hi := 3000) (by omega) (by omega) (by omega)
  obtain ⟨m, a3, c3, n3, e3⟩ := draw_Next (β := β) (N := N) c2 4
  have m0 := n3.lo; have m1 := n3.hi (by omega)
  obtain ⟨d, rfl⟩ := Int.eq_ofNat_of_zero_le m0
  have key : ∀ (d : Nat) (xs : List Sp) (a : Int), Cod l a → xs.length + d ≤ 4 → Pts xs → ∃ ys a', Cod l a' ∧ Pts ys ∧ ∀ n, d < n → ∀ K : List Int → Int → List Sp → List Sp → Int → Bool → Option β, F50.l3 N n l a [] xs (d : Int) K = K l a' [] ys 0 false := by
    intro d
    induction d with
    | zero =>
      intro xs a hc _ hp
      refine ⟨xs, a, hc, hp, fun n hn K => ?_⟩
      obtain ⟨n, rfl⟩ : ∃ m, n = m + 1 := ⟨n - 1, by omega⟩
      simp only [F50.l3, res, Int.natCast_zero, gt_iff_lt, Int.lt_irrefl, if_false, decide_false]
    | succ d ih =>
      intro xs a hc hl hp
      obtain ⟨r, a1, c1, g1, g1', e1⟩ := draw_Range (β := β) (N := N) hc (lo := 1) (hi := 40) (by omega) (by omega) (by omega)
      obtain ⟨v, a2, c2, n2, e2⟩ := draw_Next (β := β) (N := N) c1 900
      have v0 := n2.lo; have v1 := n2.hi (by omega)
      have hne := hp.ne
      have b0 := hp.f0 (xs.length - 1) (by omega); have b1 := hp.f1 (xs.length - 1) (by omega)
      obtain ⟨ys, a', hc', hp', e⟩ := ih (xs ++ [((ptAt xs (xs.length - 1)).1 + r, max 0 ((ptAt xs (xs.length - 1)).2 - v))]) a2 c2 (by simp; omega) ⟨by simp, by simp; omega, fun i hi => by
          simp at hi
          by_cases c : i < xs.length
          · rw [ptAt_snoc_lt c]; exact hp.f0 i c
          · obtain rfl : i = xs.length := by omega
            rw [ptAt_snoc_eq]; simp only []; omega, fun i hi => by
          simp at hi
          by_cases c : i < xs.length
          · rw [ptAt_snoc_lt c]; exact hp.f1 i c
          · obtain rfl : i = xs.length := by omega
            rw [ptAt_snoc_eq]; simp only []; omega, fun i hi => by
          simp at hi
          by_cases c : i + 1 < xs.length
          · rw [ptAt_snoc_lt c, ptAt_snoc_lt (by omega)]; exact hp.up i c
          · obtain rfl : i = xs.length - 1 := by omega
            rw [show xs.length - 1 + 1 = xs.length by omega, ptAt_snoc_eq, ptAt_snoc_lt (by omega)]; simp only []; omega⟩
      refine ⟨ys, a', hc', hp', fun n hn K => ?_⟩
      obtain ⟨n, rfl⟩ : ∃ m, n = m + 1 := ⟨n - 1, by omega⟩
      simp only [F50.l3, res, w_pred (show 0 < xs.length by omega) (show xs.length < 4000000000 by omega), Int.toNat_natCast, ptAt_get (show xs.length - 1 < xs.length by omega), ge_some, e1, e2]
      rw [if_pos (by omega), if_pos (by omega), if_pos (by omega), w_id (by omega) (by omega), w_id (x := _ - v) (by omega) (by omega), mxI, w_id (x := ((d + 1 : Nat) : Int) - 1) (by omega) (by omega), show ((d + 1 : Nat) : Int) - 1 = (d : Int) by omega]
      exact e n (by omega) K
  obtain ⟨ys, a4, c4, hp, e4⟩ := key d [(r, p)] a3 c3 (by simp; omega) ⟨by simp, by simp, fun i hi => by
    obtain rfl : i = 0 := by simpa using hi
    simp [ptAt]; omega, fun i hi => by
    obtain rfl : i = 0 := by simpa using hi
    simp [ptAt]; omega, fun i hi => by simp at hi⟩
  refine ⟨ys, a4, c4, hp, fun k => ?_⟩
  rw [F50.C_eq]; unfold F50.K
  rw [e1, e2, e3, e4 N (by omega)]
include hN in
theorem draw_Door {l : List Int} {a : Int} (h : Cod l a) (road : Int) : ∃ ys a', Cod l a' ∧ Rst ys ∧ ∀ k : Int → Int → List Int → List Int → Int → Option β, F51.C N l a road k = k road (-1) ys l a' := by
  obtain ⟨r, a1, c1, g1, g1', e1⟩ := draw_Range (β := β) (N := N) h (lo := 200) (hi := 900) (by omega) (by omega) (by omega)
  obtain ⟨m, a2, c2, g2, g2', e2⟩ := draw_Range (β := β) (N := N) c1 (lo := 1) (hi := 3) (by omega) (by omega) (by omega)
  obtain ⟨d, rfl⟩ := Int.eq_ofNat_of_zero_le (show 0 ≤ m by omega)
  have key : ∀ (d : Nat) (xs : List Int) (a : Int), Cod l a → 1 ≤ xs.length → xs.length + d ≤ 4 → (∀ x ∈ xs, 60 * (d : Int) ≤ x ∧ x ≤ 900) → (∀ j x, xs[j]? = some x → 0 < j → x < xs.getD (j - 1) 0) →
      ∃ ys a', Cod l a' ∧ ys.length = xs.length + d ∧ (∀ x ∈ ys, 0 ≤ x ∧ x ≤ 900) ∧ (∀ j x, ys[j]? = some x → 0 < j → x < ys.getD (j - 1) 0) ∧
      ∀ n, d < n → ∀ K : List Int → Int → Int → Int → List Int → Int → Int → List Int → Int → Bool → Option β, F51.l3 N n l a 0 0 [] road (-1) xs (d : Int) K = K l a' 0 0 [] road (-1) ys 0 false := by
    intro d
    induction d with
    | zero =>
      intro xs a hc _ _ hr hf
      refine ⟨xs, a, hc, rfl, fun x hx => by have := hr x hx; omega, hf, fun n hn K => ?_⟩
      obtain ⟨n, rfl⟩ : ∃ m, n = m + 1 := ⟨n - 1, by omega⟩
      simp only [F51.l3, res, Int.natCast_zero, gt_iff_lt, Int.lt_irrefl, if_false, decide_false]
    | succ d ih =>
      intro xs a hc hne hl hr hf
      obtain ⟨v, a1, c1, g1, g1', e1⟩ := draw_Range (β := β) (N := N) hc (lo := 1) (hi := 60) (by omega) (by omega) (by omega)
      have hx := getD_get (l := xs) (d := 0) (show xs.length - 1 < xs.length by omega)
      have b := hr _ (List.mem_of_getElem? hx)
      obtain ⟨ys, a', hc', p1, p2, p3, e⟩ := ih (xs ++ [xs.getD (xs.length - 1) 0 - v]) a1 c1 (by simp) (by simp; omega) (fun x hx => by
          rcases List.mem_append.1 hx with hx | hx
          · have := hr x hx; omega
          · simp only [List.mem_singleton] at hx; omega) (fun j x hx hj => by
          rcases snoc_get hx with ⟨hj', hx⟩ | ⟨hj', rfl⟩
          · have := hf j x hx hj
            rwa [show (xs ++ [xs.getD (xs.length - 1) 0 - v]).getD (j - 1) 0 = xs.getD (j - 1) 0 by simp [List.getD_eq_getElem?_getD, List.getElem?_append_left (show j - 1 < xs.length by omega)]]
          · rw [show (xs ++ [xs.getD (xs.length - 1) 0 - v]).getD (j - 1) 0 = xs.getD (j - 1) 0 by simp [List.getD_eq_getElem?_getD, List.getElem?_append_left (show j - 1 < xs.length by omega)], hj']; omega)
      refine ⟨ys, a', hc', by rw [p1]; simp; omega, p2, p3, fun n hn K => ?_⟩
      obtain ⟨n, rfl⟩ : ∃ m, n = m + 1 := ⟨n - 1, by omega⟩
      simp only [F51.l3, res, w_pred (show 0 < xs.length by omega) (show xs.length < 4000000000 by omega), Int.toNat_natCast, hx, ge_some, e1]
      rw [if_pos (by omega), if_pos (by omega), if_pos (by omega), w_id (x := _ - v) (by omega) (by omega), mxI, Int.max_eq_right (by omega), w_id (x := ((d + 1 : Nat) : Int) - 1) (by omega) (by omega), show ((d + 1 : Nat) : Int) - 1 = (d : Int) by omega]
      exact e n (by omega) K
  obtain ⟨ys, a3, c3, p1, p2, p3, e3⟩ := key d [r] a2 c2 (by simp) (by simp; omega) (fun x hx => by simp at hx; omega) (fun j x hx hj => by
    have := idx hx; simp at this; omega)
  refine ⟨ys, a3, c3, ⟨by rw [p1]; simp; omega, by rw [p1]; simp; omega, p2, p3⟩, fun k => ?_⟩
  rw [F51.C_eq]; unfold F51.K
  rw [e1, e2, e3 N (by omega)]
end Go.Vi.B
/- minecontrol/draught.Make -/
namespace Go.Vi.B
open Go.Proofs
set_option linter.unusedVariables false
set_option maxRecDepth 100000
abbrev F33.i : Sh := [(0, .agg [.lst .frz 62 kd1, .lst .frz 71 kd8, .lst .frz 100 kd11, .lst .frz 55 kd13]), (2, .agg [.lst .frz 3 .i, .lst .frz 3 .i])]
abbrev F33.o0 : Sh := [(0, .agg [.view 0 0, .view 0 1]), (1, .slot true [.lst .own 91 kd16, .lst .own 23 (.ow 3 .i)])]
noncomputable def F33.l4 {β : Type} (N : Nat) : Nat → (List Pl) → (List Ro) → (List Fa) → (List Do) → (List Int) → (List Int) → (List (Ro × (Int × (List (Fa × Int))))) → (List (Option (List Int))) → (List Sp) → (List (Option (List (Fa × Int)))) → (List Do) → Int → Int → (List Pl → List Ro → List Fa → List Do → List Int → List Int → (List (Ro × (Int × (List (Fa × Int))))) → (List (Option (List Int))) → List Sp → (List (Option (List (Fa × Int)))) → List Do → Int → Int → Bool → Option β) → Option β
 | 0, _, _, _, _, _, _, _, _, _, _, _, _, _, _ => none
 | n + 1, v0, v1, v2, v3, v4, v5, v6, v7, v8, v9, v10, v11, v12, k0 =>
  bl (v12 < v11) (k0 v0 v1 v2 v3 v4 v5 v6 v7 v8 v9 v10 v11 v12 (decide (v12 < v11))) <|
  ck (0 ≤ v12) <|
  ge (v10[v12.toNat]?) fun x1 =>
  ck (0 ≤ v12) <|
  ge (v5[v12.toNat]?) fun x2 =>
  F59.C N x1.1 x1.2.1 x1.2.2 x2 fun r3 r4 =>
  ck (0 ≤ x1.1) <|
  ge (v8[x1.1.toNat]?) fun _ =>
  ge (v8[x1.1.toNat]?) fun _ =>
  ge (v8[x1.1.toNat]?) fun x7 =>
  ck (0 ≤ x1.1) <|
  ge (v8[x1.1.toNat]?) fun _ =>
  ge (v8[x1.1.toNat]?) fun _ =>
  ge (v8[x1.1.toNat]?) fun x10 =>
  ck (0 ≤ x1.1) <|
  ge ((v8.set x1.1.toNat ((w (x7.1 + r3)), x10.2))[x1.1.toNat]?) fun _ =>
  ge ((v8.set x1.1.toNat ((w (x7.1 + r3)), x10.2))[x1.1.toNat]?) fun _ =>
  ge ((v8.set x1.1.toNat ((w (x7.1 + r3)), x10.2))[x1.1.toNat]?) fun x13 =>
  ck (0 ≤ x1.1) <|
  ge ((v8.set x1.1.toNat ((w (x7.1 + r3)), x10.2))[x1.1.toNat]?) fun _ =>
  ge ((v8.set x1.1.toNat ((w (x7.1 + r3)), x10.2))[x1.1.toNat]?) fun _ =>
  ge ((v8.set x1.1.toNat ((w (x7.1 + r3)), x10.2))[x1.1.toNat]?) fun x16 =>
  F33.l4 N n v0 v1 v2 v3 v4 v5 v6 v7 ((v8.set x1.1.toNat ((w (x7.1 + r3)), x10.2)).set x1.1.toNat (x16.1, (w (x13.2 + r4)))) v9 v10 v11 (w (v12 + 1)) k0
noncomputable def F33.l11 {β : Type} (N : Nat) : Nat → (List Pl) → (List Ro) → (List Fa) → (List Do) → (List Int) → (List Int) → (List (Ro × (Int × (List (Fa × Int))))) → (List (Option (List Int))) → (List Sp) → (List (Option (List (Fa × Int)))) → (List Fa) → Int → Int → (List Pl → List Ro → List Fa → List Do → List Int → List Int → (List (Ro × (Int × (List (Fa × Int))))) → (List (Option (List Int))) → List Sp → (List (Option (List (Fa × Int)))) → List Fa → Int → Int → Bool → Option β) → Option β
 | 0, _, _, _, _, _, _, _, _, _, _, _, _, _, _ => none
 | n + 1, v0, v1, v2, v3, v4, v5, v6, v7, v8, v9, v10, v11, v12, k0 =>
  bl (v12 < v11) (k0 v0 v1 v2 v3 v4 v5 v6 v7 v8 v9 v10 v11 v12 (decide (v12 < v11))) <|
  ck (0 ≤ v12) <|
  ge (v10[v12.toNat]?) fun x1 =>
  ck (0 ≤ v12) <|
  ge (v4[v12.toNat]?) fun x2 =>
  bl (x2 != 0) (F33.l11 N n v0 v1 v2 v3 v4 v5 v6 v7 v8 v9 v10 v11 (w (v12 + 1)) k0) <|
  ck (0 ≤ x1.1) <|
  ge (v9[x1.1.toNat]?) fun _ =>
  ge (v9[x1.1.toNat]?) fun y4 =>
  ge (y4) fun ys5 =>
  ck (0 ≤ v12) <|
  ge (v4[v12.toNat]?) fun x6 =>
  ck (ys5.length + 1 ≤ 1000000000) <|
  ck (0 ≤ x1.1) <|
  ge ((v9.set x1.1.toNat none)[x1.1.toNat]?) fun _ =>
  ge ((v9.set x1.1.toNat none)[x1.1.toNat]?) fun x8 =>
  ge (ofL (.ow 113 (.pair (.pair (.int .i64) (.pair .bool (.pair .bool (.fz 116 (.pair (.int .i64) (.int .i64)))))) (.int .i64))) (setRange (toL .own (.ow 113 (.pair (.pair (.int .i64) (.pair .bool (.pair .bool (.fz 116 (.pair (.int .i64) (.int .i64)))))) (.int .i64))) x8) 0 [.lst .own 113 (.pair (.pair (.int .i64) (.pair .bool (.pair .bool (.fz 116 (.pair (.int .i64) (.int .i64)))))) (.int .i64)) (ys5 ++ [((x1.1, (x1.2.1, (x1.2.2.1, x1.2.2.2))), x6)])])) fun y9 =>
  F33.l11 N n v0 v1 v2 v3 v4 v5 v6 v7 v8 ((v9.set x1.1.toNat none).set x1.1.toNat y9) v10 v11 (w (v12 + 1)) k0
noncomputable def F33.l18 {β : Type} (N : Nat) : Nat → (List (Ro × (Int × (List (Fa × Int))))) → (List (Option (List Int))) → (List Sp) → (List (Option (List (Fa × Int)))) → (List (Ro × (Int × (List (Fa × Int))))) → (List (Option (List Int))) → (List Ro) → Int → Int → ((List (Ro × (Int × (List (Fa × Int))))) → (List (Option (List Int))) → List Sp → (List (Option (List (Fa × Int)))) → (List (Ro × (Int × (List (Fa × Int))))) → (List (Option (List Int))) → List Ro → Int → Int → Bool → Option β) → Option β
 | 0, _, _, _, _, _, _, _, _, _, _ => none
 | n + 1, v0, v1, v2, v3, v4, v5, v6, v7, v8, k0 =>
  bl (v8 < v7) (k0 v0 v1 v2 v3 v4 v5 v6 v7 v8 (decide (v8 < v7))) <|
  ck (0 ≤ v8) <|
  ge (v6[v8.toNat]?) fun x1 =>
  br (x1.2.2.2.2.2.1) (F33.l18 N n v0 v1 v2 v3 v4 v5 v6 v7 (w (v8 + 1)) k0) <|
  ck (0 ≤ x1.1) <|
  ge (v5[x1.1.toNat]?) fun _ =>
  ge (v5[x1.1.toNat]?) fun y3 =>
  ge (y3) fun ys4 =>
  ck (ys4.length + 1 ≤ 1000000000) <|
  ck (0 ≤ x1.1) <|
  ge ((v5.set x1.1.toNat none)[x1.1.toNat]?) fun _ =>
  ge ((v5.set x1.1.toNat none)[x1.1.toNat]?) fun x6 =>
  ge (ofL (.ow 3 (.int .i64)) (setRange (toL .own (.ow 3 (.int .i64)) x6) 0 [.lst .own 3 (.int .i64) (ys4 ++ [(v4.length : Int)])])) fun y7 =>
  ck (0 ≤ x1.2.1) <|
  ge (((v5.set x1.1.toNat none).set x1.1.toNat y7)[x1.2.1.toNat]?) fun _ =>
  ge (((v5.set x1.1.toNat none).set x1.1.toNat y7)[x1.2.1.toNat]?) fun y9 =>
  ge (y9) fun ys10 =>
  ck (ys10.length + 1 ≤ 1000000000) <|
  ck (0 ≤ x1.2.1) <|
  ge ((((v5.set x1.1.toNat none).set x1.1.toNat y7).set x1.2.1.toNat none)[x1.2.1.toNat]?) fun _ =>
  ge ((((v5.set x1.1.toNat none).set x1.1.toNat y7).set x1.2.1.toNat none)[x1.2.1.toNat]?) fun x12 =>
  ge (ofL (.ow 3 (.int .i64)) (setRange (toL .own (.ow 3 (.int .i64)) x12) 0 [.lst .own 3 (.int .i64) (ys10 ++ [(v4.length : Int)])])) fun y13 =>
  ck (0 ≤ v8) <|
  ge (v2[v8.toNat]?) fun _ =>
  ge (v2[v8.toNat]?) fun _ =>
  ge (v2[v8.toNat]?) fun x16 =>
  ck (0 ≤ v8) <|
  ge (v2[v8.toNat]?) fun _ =>
  ge (v2[v8.toNat]?) fun _ =>
  ge (v2[v8.toNat]?) fun x19 =>
  ck (0 ≤ v8) <|
  ge (v3[v8.toNat]?) fun _ =>
  ge (v3[v8.toNat]?) fun y21 =>
  ge (y21) fun ys22 =>
  ck (v4.length + 1 ≤ 1000000000) <|
  F33.l18 N n v0 v1 v2 (v3.set v8.toNat none) (v4 ++ [((x1.1, (x1.2.1, (x1.2.2.1, (x1.2.2.2.1, (x1.2.2.2.2.1, (x1.2.2.2.2.2.1, (((w (x1.2.2.2.2.2.2.1.1 + x16.1)), (w (x1.2.2.2.2.2.2.1.2 + x19.2))), (x1.2.2.2.2.2.2.2.1, x1.2.2.2.2.2.2.2.2)))))))), (v8, ys22))]) ((((v5.set x1.1.toNat none).set x1.1.toNat y7).set x1.2.1.toNat none).set x1.2.1.toNat y13) v6 v7 (w (v8 + 1)) k0
noncomputable def F33.K {β : Type} (N : Nat) (a0 : List Pl) (a1 : List Ro) (a2 : List Fa) (a3 : List Do) (a4 a5 : List Int) (k0 : (List (Ro × (Int × (List (Fa × Int))))) → (List (Option (List Int))) → Option β) : Option β :=
 ck ((a1.length : Int) = (a1.length : Int)) <|
 ck (0 ≤ (a1.length : Int)) <|
 ck ((a1.length : Int) ≤ 1000000000) <|
 ck ((a1.length : Int) = (a1.length : Int)) <|
 ck (0 ≤ (a1.length : Int)) <|
 ck ((a1.length : Int) ≤ 1000000000) <|
 F33.l4 N N a0 a1 a2 a3 a4 a5 [] [] (List.replicate (Int.toNat (a1.length : Int)) (0, 0)) (List.replicate (Int.toNat (a1.length : Int)) (some [])) a3 (a3.length : Int) 0 fun z17 z18 z19 z20 z21 z22 z23 z24 z25 z26 _ _ _ _ =>
 F33.l11 N N z17 z18 z19 z20 z21 z22 z23 z24 z25 z26 z19 (z19.length : Int) 0 fun z31 z32 _ _ _ _ z37 z38 z39 z40 _ _ _ _ =>
 ck ((z31.length : Int) = (z31.length : Int)) <|
 ck (0 ≤ (z31.length : Int)) <|
 ck ((z31.length : Int) ≤ 1000000000) <|
 F33.l18 N N z37 z38 z39 z40 [] (List.replicate (Int.toNat (z31.length : Int)) (some [])) z32 (z32.length : Int) 0 fun _ _ _ _ z49 z50 _ _ _ _ =>
 k0 z49 z50
noncomputable def F33.fx : Fx := ⟨Try.prog, [4], [], [(0,[2,3,4]),(1,[2,3,4,5]),(2,[2,3,4,5,6]),(3,[2,3,4,5,6,27,28,29]),(4,[2,3,4,5,6,27,28,29,30]),(5,[2,3,4,5,6,7,8,27,28,29]),(6,[2,3,4,5,6,8,9,27,28,29]),(7,[2,3,4,5,6,8,9,27,28,29]),(8,[2,3,4,5,6,27,28,29]),(9,[2,3,4,5,6,27,28,29]),(10,[2,3,4,5,6,65,66,67]),(11,[2,3,4,5,6,65,66,67,68]),(12,[2,3,4,5,6,10,11,65,66,67]),(13,[2,3,4,5,6,10,11,65,66,67,77]),(14,[2,3,4,5,6,65,66,67]),(15,[2,3,4,5,6,65,66,67]),(16,[2,4,5,6,12]),(17,[4,5,6,12,105,106,107]),(18,[4,5,6,12,105,106,107,108]),(19,[4,5,6,12,13,14,105,106,107]),(20,[4,5,6,12,13,14,105,106,107,113]),(21,[4,5,6,12,13,14,15,105,106,107]),(22,[4,5,6,12,13,14,15,105,106,107]),(23,[4,5,6,12,13,14,105,106,107]),(24,[4,5,6,12,13,14,105,106,107]),(25,[4,5,6,12,13,14,105,106,107]),(26,[4,5,6,12,105,106,107]),(27,[4,5,6,12,105,106,107]),(28,[4])], 181, []⟩
noncomputable def F33.cs (N : Nat) : List (Ctr Try.prog) := [F59.X N]
abbrev F33.s4 : Sh := [(4, .one (.addr 2 0)), (5, .slot false [.lst .frz 62 kd1, .lst .frz 71 kd8, .lst .frz 100 kd11, .lst .frz 55 kd13]), (6, .one (.addr 3 0)), (7, .slot false [.lst .frz 3 .i, .lst .frz 3 .i]), (8, .one (.addr 4 0)), (9, .slot false [.lst .own 91 kd16, .lst .own 23 (.ow 3 .i)]), (10, .one (.view 5 0)), (11, .slot true [.lst .own 57 kd0]), (12, .one (.view 6 0)), (13, .slot true [.lst .own 89 (.ow 113 kd14)]), (54, .one (.lst .frz 55 kd13)), (56, .one .i), (58, .one .i)]
abbrev F33.e4_0 : Sh := [(4, .one (.addr 2 0)), (5, .slot false [.lst .frz 62 kd1, .lst .frz 71 kd8, .lst .frz 100 kd11, .lst .frz 55 kd13]), (6, .one (.addr 3 0)), (7, .slot false [.lst .frz 3 .i, .lst .frz 3 .i]), (8, .one (.addr 4 0)), (9, .slot false [.lst .own 91 kd16, .lst .own 23 (.ow 3 .i)]), (10, .one (.view 5 0)), (11, .slot true [.lst .own 57 kd0]), (12, .one (.view 6 0)), (13, .slot true [.lst .own 89 (.ow 113 kd14)]), (54, .one (.lst .frz 55 kd13)), (56, .one .i), (58, .one .i), (60, .one .bool)]
noncomputable def F33.X4 (N : Nat) : LpC Try.prog F33.fx := mkL (F33.cs N) [] ((loopsOf (bodyOf Try.f33)).getD 0 .skip) 4 [2,3,4,5,6,27,28,29] (by kernel_rfl) (by kernel_rfl) (by kernel_rfl) F33.s4 (fun n x k => F33.l4 N n x.1 x.2.1 x.2.2.1 x.2.2.2.1 x.2.2.2.2.1 x.2.2.2.2.2.1 x.2.2.2.2.2.2.1 x.2.2.2.2.2.2.2.1 x.2.2.2.2.2.2.2.2.1 x.2.2.2.2.2.2.2.2.2.1 x.2.2.2.2.2.2.2.2.2.2.1 x.2.2.2.2.2.2.2.2.2.2.2.1 x.2.2.2.2.2.2.2.2.2.2.2.2.1 (fun r0 r1 r2 r3 r4 r5 r6 r7 r8 r9 r10 r11 r12 r13 => k (.exit 0) (Sh.mk F33.e4_0 (r0, r1, r2, r3, r4, r5, r6, r7, r8, r9, r10, r11, r12, r13, ())))) (fun _ _ => rfl) (fun _ _ _ => by kernel_rfl) N
abbrev F33.s11 : Sh := [(4, .one (.addr 2 0)), (5, .slot false [.lst .frz 62 kd1, .lst .frz 71 kd8, .lst .frz 100 kd11, .lst .frz 55 kd13]), (6, .one (.addr 3 0)), (7, .slot false [.lst .frz 3 .i, .lst .frz 3 .i]), (8, .one (.addr 4 0)), (9, .slot false [.lst .own 91 kd16, .lst .own 23 (.ow 3 .i)]), (10, .one (.view 5 0)), (11, .slot true [.lst .own 57 kd0]), (12, .one (.view 6 0)), (13, .slot true [.lst .own 89 (.ow 113 kd14)]), (130, .one (.lst .frz 100 kd11)), (132, .one .i), (134, .one .i)]
abbrev F33.e11_0 : Sh := [(4, .one (.addr 2 0)), (5, .slot false [.lst .frz 62 kd1, .lst .frz 71 kd8, .lst .frz 100 kd11, .lst .frz 55 kd13]), (6, .one (.addr 3 0)), (7, .slot false [.lst .frz 3 .i, .lst .frz 3 .i]), (8, .one (.addr 4 0)), (9, .slot false [.lst .own 91 kd16, .lst .own 23 (.ow 3 .i)]), (10, .one (.view 5 0)), (11, .slot true [.lst .own 57 kd0]), (12, .one (.view 6 0)), (13, .slot true [.lst .own 89 (.ow 113 kd14)]), (130, .one (.lst .frz 100 kd11)), (132, .one .i), (134, .one .i), (136, .one .bool)]
noncomputable def F33.X11 (N : Nat) : LpC Try.prog F33.fx := mkL (F33.cs N) [] ((loopsOf (bodyOf Try.f33)).getD 1 .skip) 11 [2,3,4,5,6,65,66,67] (by kernel_rfl) (by kernel_rfl) (by kernel_rfl) F33.s11 (fun n x k => F33.l11 N n x.1 x.2.1 x.2.2.1 x.2.2.2.1 x.2.2.2.2.1 x.2.2.2.2.2.1 x.2.2.2.2.2.2.1 x.2.2.2.2.2.2.2.1 x.2.2.2.2.2.2.2.2.1 x.2.2.2.2.2.2.2.2.2.1 x.2.2.2.2.2.2.2.2.2.2.1 x.2.2.2.2.2.2.2.2.2.2.2.1 x.2.2.2.2.2.2.2.2.2.2.2.2.1 (fun r0 r1 r2 r3 r4 r5 r6 r7 r8 r9 r10 r11 r12 r13 => k (.exit 2) (Sh.mk F33.e11_0 (r0, r1, r2, r3, r4, r5, r6, r7, r8, r9, r10, r11, r12, r13, ())))) (fun _ _ => rfl) (fun _ _ _ => by kernel_rfl) N
abbrev F33.s18 : Sh := [(8, .one (.addr 4 0)), (9, .slot false [.lst .own 91 kd16, .lst .own 23 (.ow 3 .i)]), (10, .one (.view 5 0)), (11, .slot true [.lst .own 57 kd0]), (12, .one (.view 6 0)), (13, .slot true [.lst .own 89 (.ow 113 kd14)]), (24, .one (.addr 12 0)), (25, .slot false [.lst .own 91 kd16, .lst .own 23 (.ow 3 .i)]), (210, .one (.lst .frz 71 kd8)), (212, .one .i), (214, .one .i)]
abbrev F33.e18_0 : Sh := [(8, .one (.addr 4 0)), (9, .slot false [.lst .own 91 kd16, .lst .own 23 (.ow 3 .i)]), (10, .one (.view 5 0)), (11, .slot true [.lst .own 57 kd0]), (12, .one (.view 6 0)), (13, .slot true [.lst .own 89 (.ow 113 kd14)]), (24, .one (.addr 12 0)), (25, .slot false [.lst .own 91 kd16, .lst .own 23 (.ow 3 .i)]), (210, .one (.lst .frz 71 kd8)), (212, .one .i), (214, .one .i), (216, .one .bool)]
noncomputable def F33.X18 (N : Nat) : LpC Try.prog F33.fx := mkL (F33.cs N) [] ((loopsOf (bodyOf Try.f33)).getD 2 .skip) 18 [4,5,6,12,105,106,107] (by kernel_rfl) (by kernel_rfl) (by kernel_rfl) F33.s18 (fun n x k => F33.l18 N n x.1 x.2.1 x.2.2.1 x.2.2.2.1 x.2.2.2.2.1 x.2.2.2.2.2.1 x.2.2.2.2.2.2.1 x.2.2.2.2.2.2.2.1 x.2.2.2.2.2.2.2.2.1 (fun r0 r1 r2 r3 r4 r5 r6 r7 r8 r9 => k (.exit 4) (Sh.mk F33.e18_0 (r0, r1, r2, r3, r4, r5, r6, r7, r8, r9, ())))) (fun _ _ => rfl) (fun _ _ _ => by kernel_rfl) N
noncomputable def F33.C {β : Type} (N : Nat) := (Sealed fun β => @F33.K β).1 β N
theorem F33.C_eq {β : Type} (N : Nat) : @F33.C β N = @F33.K β N := congrFun (congrFun (Sealed fun β => @F33.K β).2 β) N
noncomputable def F33.X (N : Nat) : Ctr Try.prog := mkF 33 Try.f33 F33.fx (F33.cs N) [F33.X4 N, F33.X11 N, F33.X18 N] F33.i (fun x k => F33.C N x.1 x.2.1 x.2.2.1 x.2.2.2.1 x.2.2.2.2.1 x.2.2.2.2.2.1 (fun r0 r1 => k (Sh.mk F33.o0 (r0, r1, ())))) (by intros; rw [F33.C_eq]; kernel_rfl) (by kernel_rfl) (by kernel_rfl) (by kernel_rfl) (by kernel_rfl) rfl (by kernel_rfl) rfl (by kernel_rfl) (by kernel_rfl) (by kernel_rfl) (.dead _ 33) rfl
end Go.Vi.B
/- minecontrol/branch.Fitting -/
namespace Go.Vi.B
open Go.Proofs
set_option linter.unusedVariables false
set_option maxRecDepth 100000
abbrev F31.i : Sh := [(0, .agg [.lst .frz 62 kd1, .lst .frz 71 kd8, .lst .frz 100 kd11, .lst .frz 55 kd13]), (2, .agg [.lst .frz 3 .i, .lst .frz 3 .i])]
abbrev F31.o0 : Sh := [(0, .one .bool)]
noncomputable def F31.l4 {β : Type} (N : Nat) : Nat → (List Pl) → (List Ro) → (List Fa) → (List Do) → (List Int) → (List Int) → Bool → (List Int) → Int → Int → (Bool → Option β) → (List Pl → List Ro → List Fa → List Do → List Int → List Int → Bool → List Int → Int → Int → Bool → Option β) → Option β
 | 0, _, _, _, _, _, _, _, _, _, _, _, _ => none
 | n + 1, v0, v1, v2, v3, v4, v5, v6, v7, v8, v9, k0, k1 =>
  bl (v9 < v8) (k1 v0 v1 v2 v3 v4 v5 v6 v7 v8 v9 (decide (v9 < v8))) <|
  ck (0 ≤ v9) <|
  ge (v7[v9.toNat]?) fun x1 =>
  br (x1 < (-1)) (k0 false) <|
  br (x1 > 2) (k0 false) <|
  F31.l4 N n v0 v1 v2 v3 v4 v5 v6 v7 v8 (w (v9 + 1)) k0 k1
noncomputable def F31.l10 {β : Type} (N : Nat) : Nat → (List Pl) → (List Ro) → (List Fa) → (List Do) → Bool → (List Int) → Int → Int → (Bool → Option β) → (List Pl → List Ro → List Fa → List Do → Bool → List Int → Int → Int → Bool → Option β) → Option β
 | 0, _, _, _, _, _, _, _, _, _, _ => none
 | n + 1, v0, v1, v2, v3, v4, v5, v6, v7, k0, k1 =>
  bl (v7 < v6) (k1 v0 v1 v2 v3 v4 v5 v6 v7 (decide (v7 < v6))) <|
  ck (0 ≤ v7) <|
  ge (v5[v7.toNat]?) fun x1 =>
  br (x1 < (-1)) (k0 false) <|
  ck (0 ≤ v7) <|
  ge (v3[v7.toNat]?) fun x2 =>
  br (x1 ≥ (x2.2.2.length : Int)) (k0 false) <|
  F31.l10 N n v0 v1 v2 v3 v4 v5 v6 (w (v7 + 1)) k0 k1
noncomputable def F31.K {β : Type} (N : Nat) (a0 : List Pl) (a1 : List Ro) (a2 : List Fa) (a3 : List Do) (a4 a5 : List Int) (k0 : Bool → Option β) : Option β :=
 br ((a4.length : Int) != (a2.length : Int)) (k0 false) <|
 br ((a5.length : Int) != (a3.length : Int)) (k0 false) <|
 F31.l4 N N a0 a1 a2 a3 a4 a5 false a4 (a4.length : Int) 0 (fun z2 => k0 z2) fun z3 z4 z5 z6 _ z8 z9 _ _ _ _ =>
 F31.l10 N N z3 z4 z5 z6 z9 z8 (z8.length : Int) 0 (fun z14 => k0 z14) fun _ _ _ _ _ _ _ _ _ =>
 k0 true
noncomputable def F31.fx : Fx := ⟨Try.prog, [], [], [(0,[2,3,4]),(1,[2,3,4,24]),(2,[4]),(3,[2,3,4,26,27,28]),(4,[2,3,4,26,27,28,29]),(5,[2,3,4,6,26,27,28]),(6,[2,3,4,26,27,28,37]),(7,[4]),(8,[2,3,4,26,27,28]),(9,[2,4,40,41,42]),(10,[2,4,40,41,42,43]),(11,[2,4,7,8,40,41,42]),(12,[2,4,40,41,42,59]),(13,[4]),(14,[2,4,40,41,42]),(15,[4])], 61, []⟩
noncomputable def F31.cs (N : Nat) : List (Ctr Try.prog) := []
abbrev F31.s4 : Sh := [(4, .one (.addr 2 0)), (5, .slot false [.lst .frz 62 kd1, .lst .frz 71 kd8, .lst .frz 100 kd11, .lst .frz 55 kd13]), (6, .one (.addr 3 0)), (7, .slot false [.lst .frz 3 .i, .lst .frz 3 .i]), (8, .one .bool), (52, .one (.lst .frz 3 .i)), (54, .one .i), (56, .one .i)]
abbrev F31.e4_0 : Sh := [(8, .one .bool)]
abbrev F31.e4_1 : Sh := [(4, .one (.addr 2 0)), (5, .slot false [.lst .frz 62 kd1, .lst .frz 71 kd8, .lst .frz 100 kd11, .lst .frz 55 kd13]), (6, .one (.addr 3 0)), (7, .slot false [.lst .frz 3 .i, .lst .frz 3 .i]), (8, .one .bool), (52, .one (.lst .frz 3 .i)), (54, .one .i), (56, .one .i), (58, .one .bool)]
noncomputable def F31.X4 (N : Nat) : LpC Try.prog F31.fx := mkL (F31.cs N) [] ((loopsOf (bodyOf Try.f31)).getD 0 .skip) 4 [2,3,4,26,27,28] (by kernel_rfl) (by kernel_rfl) (by kernel_rfl) F31.s4 (fun n x k => F31.l4 N n x.1 x.2.1 x.2.2.1 x.2.2.2.1 x.2.2.2.2.1 x.2.2.2.2.2.1 x.2.2.2.2.2.2.1 x.2.2.2.2.2.2.2.1 x.2.2.2.2.2.2.2.2.1 x.2.2.2.2.2.2.2.2.2.1 (fun r0 => k (.ret) (Sh.mk F31.e4_0 (r0, ()))) (fun r0 r1 r2 r3 r4 r5 r6 r7 r8 r9 r10 => k (.exit 0) (Sh.mk F31.e4_1 (r0, r1, r2, r3, r4, r5, r6, r7, r8, r9, r10, ())))) (fun _ _ => rfl) (fun _ _ _ => by kernel_rfl) N
abbrev F31.s10 : Sh := [(4, .one (.addr 2 0)), (5, .slot false [.lst .frz 62 kd1, .lst .frz 71 kd8, .lst .frz 100 kd11, .lst .frz 55 kd13]), (8, .one .bool), (80, .one (.lst .frz 3 .i)), (82, .one .i), (84, .one .i)]
abbrev F31.e10_0 : Sh := [(8, .one .bool)]
abbrev F31.e10_1 : Sh := [(4, .one (.addr 2 0)), (5, .slot false [.lst .frz 62 kd1, .lst .frz 71 kd8, .lst .frz 100 kd11, .lst .frz 55 kd13]), (8, .one .bool), (80, .one (.lst .frz 3 .i)), (82, .one .i), (84, .one .i), (86, .one .bool)]
noncomputable def F31.X10 (N : Nat) : LpC Try.prog F31.fx := mkL (F31.cs N) [] ((loopsOf (bodyOf Try.f31)).getD 1 .skip) 10 [2,4,40,41,42] (by kernel_rfl) (by kernel_rfl) (by kernel_rfl) F31.s10 (fun n x k => F31.l10 N n x.1 x.2.1 x.2.2.1 x.2.2.2.1 x.2.2.2.2.1 x.2.2.2.2.2.1 x.2.2.2.2.2.2.1 x.2.2.2.2.2.2.2.1 (fun r0 => k (.ret) (Sh.mk F31.e10_0 (r0, ()))) (fun r0 r1 r2 r3 r4 r5 r6 r7 r8 => k (.exit 2) (Sh.mk F31.e10_1 (r0, r1, r2, r3, r4, r5, r6, r7, r8, ())))) (fun _ _ => rfl) (fun _ _ _ => by kernel_rfl) N
noncomputable def F31.C {β : Type} (N : Nat) := (Sealed fun β => @F31.K β).1 β N
theorem F31.C_eq {β : Type} (N : Nat) : @F31.C β N = @F31.K β N := congrFun (congrFun (Sealed fun β => @F31.K β).2 β) N
noncomputable def F31.X (N : Nat) : Ctr Try.prog := mkF 31 Try.f31 F31.fx (F31.cs N) [F31.X4 N, F31.X10 N] F31.i (fun x k => F31.C N x.1 x.2.1 x.2.2.1 x.2.2.2.1 x.2.2.2.2.1 x.2.2.2.2.2.1 (fun r0 => k (Sh.mk F31.o0 (r0, ())))) (by intros; rw [F31.C_eq]; kernel_rfl) (by kernel_rfl) (by kernel_rfl) (by kernel_rfl) (by kernel_rfl) rfl (by kernel_rfl) rfl (by kernel_rfl) (by kernel_rfl) (by kernel_rfl) (.dead _ 31) rfl
end Go.Vi.B
/- minecontrol/minecontrolref01.Span -/
namespace Go.Vi.B
open Go.Proofs
set_option linter.unusedVariables false
set_option maxRecDepth 100000
abbrev F74.i : Sh := [(0, .agg [.i, .i]), (2, .one .i), (4, .one .i)]
abbrev F74.o0 : Sh := [(0, .one .bool)]
noncomputable def F74.K {β : Type} (N : Nat) (a0 a1 a2 a3 : Int) (k0 : Bool → Option β) : Option β :=
 bl (a2 ≤ a0) (k0 false) <|
 br (a0 ≤ a1) (k0 (decide (a1 ≤ a3))) <|
 k0 false
noncomputable def F74.fx : Fx := ⟨Try.prog, [], [], [(0,[1,2,3]),(1,[6])], 24, []⟩
noncomputable def F74.cs (N : Nat) : List (Ctr Try.prog) := []
noncomputable def F74.C {β : Type} (N : Nat) := (Sealed fun β => @F74.K β).1 β N
theorem F74.C_eq {β : Type} (N : Nat) : @F74.C β N = @F74.K β N := congrFun (congrFun (Sealed fun β => @F74.K β).2 β) N
noncomputable def F74.X (N : Nat) : Ctr Try.prog := mkF 74 Try.f74 F74.fx (F74.cs N) [] F74.i (fun x k => F74.C N x.1 x.2.1 x.2.2.1 x.2.2.2.1 (fun r0 => k (Sh.mk F74.o0 (r0, ())))) (by intros; rw [F74.C_eq]; kernel_rfl) (by kernel_rfl) (by kernel_rfl) (by kernel_rfl) (by kernel_rfl) rfl (by kernel_rfl) rfl (by kernel_rfl) (by kernel_rfl) (by kernel_rfl) (.dead _ 74) rfl
end Go.Vi.B
/- minecontrol/minecontrolref01.Check -/
namespace Go.Vi.B
open Go.Proofs
set_option linter.unusedVariables false
set_option maxRecDepth 100000
abbrev F60.i : Sh := [(0, .agg [.lst .frz 62 kd1, .lst .frz 71 kd8])]
abbrev F60.o0 : Sh := [(0, .one .i)]
noncomputable def F60.l4 {β : Type} (N : Nat) : Nat → (List Pl) → (List Ro) → Int → Int → (Int → Option β) → (List Pl → List Ro → Int → Int → Bool → Option β) → Option β
 | 0, _, _, _, _, _, _ => none
 | n + 1, v0, v1, v2, v3, k0, k1 =>
  bl (v3 < (v0.length : Int)) (k1 v0 v1 v2 v3 (decide (v3 < (v0.length : Int)))) <|
  ck (0 ≤ v3) <|
  ge (v0[v3.toNat]?) fun x1 =>
  br (x1.1 < (-10000)) (k0 1) <|
  br (x1.1 > 10000) (k0 1) <|
  F60.l4 N n v0 v1 v2 (w (v3 + 1)) k0 k1
noncomputable def F60.l10 {β : Type} (N : Nat) : Nat → (List Pl) → (List Ro) → Int → Int → (Int → Option β) → (List Pl → List Ro → Int → Int → Bool → Option β) → Option β
 | 0, _, _, _, _, _, _ => none
 | n + 1, v0, v1, v2, v3, k0, k1 =>
  bl (v3 < (v1.length : Int)) (k1 v0 v1 v2 v3 (decide (v3 < (v1.length : Int)))) <|
  ck (0 ≤ v3) <|
  ge (v1[v3.toNat]?) fun x1 =>
  br (x1.1 < 0) (k0 4) <|
  br (x1.1 ≥ (v0.length : Int)) (k0 4) <|
  br (x1.2.1 < 0) (k0 4) <|
  br (x1.2.1 ≥ (v0.length : Int)) (k0 4) <|
  br (x1.1 = x1.2.1) (k0 4) <|
  br (x1.2.2.1 < 1) (k0 1) <|
  br (x1.2.2.1 > 100000) (k0 1) <|
  br (x1.2.2.2.1 < 1) (k0 1) <|
  br (x1.2.2.2.1 > 1000) (k0 1) <|
  F74.C N x1.2.2.2.2.2.2.1.1 x1.2.2.2.2.2.2.1.2 1 262144 fun r2 =>
  br (!r2) (k0 1) <|
  F74.C N x1.2.2.2.2.2.2.2.1 x1.2.2.2.2.2.2.2.2 (-2199023255552) 2199023255552 fun r3 =>
  br (!r3) (k0 1) <|
  F60.l10 N n v0 v1 v2 (w (v3 + 1)) k0 k1
noncomputable def F60.K {β : Type} (N : Nat) (a0 : List Pl) (a1 : List Ro) (k0 : Int → Option β) : Option β :=
 br ((a0.length : Int) > 64) (k0 2) <|
 br ((a1.length : Int) > 128) (k0 2) <|
 F60.l4 N N a0 a1 0 0 (fun z2 => k0 z2) fun z3 z4 z5 _ _ =>
 F60.l10 N N z3 z4 z5 0 (fun z8 => k0 z8) fun _ _ _ _ _ =>
 k0 0
noncomputable def F60.fx : Fx := ⟨Try.prog, [], [], [(0,[1,2]),(1,[1,2,16]),(2,[2]),(3,[1,2,3]),(4,[1,2,3,21]),(5,[1,2,3]),(6,[1,2,3,4]),(7,[1,2,3,35]),(8,[2]),(9,[1,2,5]),(10,[1,2,5,40]),(11,[1,2,5]),(12,[1,2,5,6]),(13,[1,2,5,6,78]),(14,[2]),(15,[1,2,5,108]),(16,[2]),(17,[2])], 109, []⟩
noncomputable def F60.cs (N : Nat) : List (Ctr Try.prog) := [F74.X N]
abbrev F60.s4 : Sh := [(2, .one (.addr 1 0)), (3, .slot false [.lst .frz 62 kd1, .lst .frz 71 kd8]), (4, .one .i), (6, .one .i)]
abbrev F60.e4_0 : Sh := [(4, .one .i)]
abbrev F60.e4_1 : Sh := [(2, .one (.addr 1 0)), (3, .slot false [.lst .frz 62 kd1, .lst .frz 71 kd8]), (4, .one .i), (6, .one .i), (42, .one .bool)]
noncomputable def F60.X4 (N : Nat) : LpC Try.prog F60.fx := mkL (F60.cs N) [] ((loopsOf (bodyOf Try.f60)).getD 0 .skip) 4 [1,2,3] (by kernel_rfl) (by kernel_rfl) (by kernel_rfl) F60.s4 (fun n x k => F60.l4 N n x.1 x.2.1 x.2.2.1 x.2.2.2.1 (fun r0 => k (.ret) (Sh.mk F60.e4_0 (r0, ()))) (fun r0 r1 r2 r3 r4 => k (.exit 0) (Sh.mk F60.e4_1 (r0, r1, r2, r3, r4, ())))) (fun _ _ => rfl) (fun _ _ _ => by kernel_rfl) N
abbrev F60.s10 : Sh := [(2, .one (.addr 1 0)), (3, .slot false [.lst .frz 62 kd1, .lst .frz 71 kd8]), (4, .one .i), (10, .one .i)]
abbrev F60.e10_0 : Sh := [(4, .one .i)]
abbrev F60.e10_1 : Sh := [(2, .one (.addr 1 0)), (3, .slot false [.lst .frz 62 kd1, .lst .frz 71 kd8]), (4, .one .i), (10, .one .i), (80, .one .bool)]
noncomputable def F60.X10 (N : Nat) : LpC Try.prog F60.fx := mkL (F60.cs N) [] ((loopsOf (bodyOf Try.f60)).getD 1 .skip) 10 [1,2,5] (by kernel_rfl) (by kernel_rfl) (by kernel_rfl) F60.s10 (fun n x k => F60.l10 N n x.1 x.2.1 x.2.2.1 x.2.2.2.1 (fun r0 => k (.ret) (Sh.mk F60.e10_0 (r0, ()))) (fun r0 r1 r2 r3 r4 => k (.exit 2) (Sh.mk F60.e10_1 (r0, r1, r2, r3, r4, ())))) (fun _ _ => rfl) (fun _ _ _ => by kernel_rfl) N
noncomputable def F60.C {β : Type} (N : Nat) := (Sealed fun β => @F60.K β).1 β N
theorem F60.C_eq {β : Type} (N : Nat) : @F60.C β N = @F60.K β N := congrFun (congrFun (Sealed fun β => @F60.K β).2 β) N
noncomputable def F60.X (N : Nat) : Ctr Try.prog := mkF 60 Try.f60 F60.fx (F60.cs N) [F60.X4 N, F60.X10 N] F60.i (fun x k => F60.C N x.1 x.2.1 (fun r0 => k (Sh.mk F60.o0 (r0, ())))) (by intros; rw [F60.C_eq]; kernel_rfl) (by kernel_rfl) (by kernel_rfl) (by kernel_rfl) (by kernel_rfl) rfl (by kernel_rfl) rfl (by kernel_rfl) (by kernel_rfl) (by kernel_rfl) (.dead _ 60) rfl
end Go.Vi.B
/- minecontrol/minecontrolref07.Check -/
namespace Go.Vi.B
open Go.Proofs
set_option linter.unusedVariables false
set_option maxRecDepth 100000
abbrev F61.i : Sh := [(0, .agg [.i, .bool, .bool, .lst .frz 116 kd0])]
abbrev F61.o0 : Sh := [(0, .one .i)]
noncomputable def F61.l6 {β : Type} (N : Nat) : Nat → Int → Bool → Bool → (List Sp) → Int → Int → (Int → Option β) → (Int → Bool → Bool → List Sp → Int → Int → Bool → Option β) → Option β
 | 0, _, _, _, _, _, _, _, _ => none
 | n + 1, v0, v1, v2, v3, v4, v5, k0, k1 =>
  bl (v5 < (v3.length : Int)) (k1 v0 v1 v2 v3 v4 v5 (decide (v5 < (v3.length : Int)))) <|
  ck (0 ≤ v5) <|
  ge (v3[v5.toNat]?) fun x1 =>
  br (x1.1 < (-1048576)) (k0 1) <|
  br (x1.1 > 1048576) (k0 1) <|
  br (x1.2 < 0) (k0 1) <|
  br (x1.2 > 2199023255552) (k0 1) <|
  bl (v5 > 0) (F61.l6 N n v0 v1 v2 v3 v4 (w (v5 + 1)) k0 k1) <|
  ck (0 ≤ (w (v5 - 1))) <|
  ge (v3[(w (v5 - 1)).toNat]?) fun x2 =>
  br (x1.1 ≤ x2.1) (k0 14) <|
  ck (0 ≤ (w (v5 - 1))) <|
  ge (v3[(w (v5 - 1)).toNat]?) fun x3 =>
  br (x1.2 > x3.2) (k0 14) <|
  F61.l6 N n v0 v1 v2 v3 v4 (w (v5 + 1)) k0 k1
noncomputable def F61.K {β : Type} (N : Nat) (a0 : Int) (a1 a2 : Bool) (a3 : List Sp) (k0 : Int → Option β) : Option β :=
 br (a0 < 0) (k0 4) <|
 br ((a3.length : Int) < 1) (k0 2) <|
 br ((a3.length : Int) > 8) (k0 2) <|
 F61.l6 N N a0 a1 a2 a3 0 0 (fun z4 => k0 z4) fun _ _ _ _ _ _ _ =>
 k0 0
noncomputable def F61.fx : Fx := ⟨Try.prog, [], [], [(0,[1,2]),(1,[1,2,7]),(2,[2]),(3,[1,2,17]),(4,[2]),(5,[1,2,3]),(6,[1,2,3,22]),(7,[1,2,3]),(8,[1,2,3,4]),(9,[1,2,3,4,47]),(10,[2]),(11,[1,2,3,73]),(12,[2]),(13,[2])], 74, []⟩
noncomputable def F61.cs (N : Nat) : List (Ctr Try.prog) := []
abbrev F61.s6 : Sh := [(2, .one (.addr 1 0)), (3, .slot false [.i, .bool, .bool, .lst .frz 116 kd0]), (4, .one .i), (6, .one .i)]
abbrev F61.e6_0 : Sh := [(4, .one .i)]
abbrev F61.e6_1 : Sh := [(2, .one (.addr 1 0)), (3, .slot false [.i, .bool, .bool, .lst .frz 116 kd0]), (4, .one .i), (6, .one .i), (44, .one .bool)]
noncomputable def F61.X6 (N : Nat) : LpC Try.prog F61.fx := mkL (F61.cs N) [] ((loopsOf (bodyOf Try.f61)).getD 0 .skip) 6 [1,2,3] (by kernel_rfl) (by kernel_rfl) (by kernel_rfl) F61.s6 (fun n x k => F61.l6 N n x.1 x.2.1 x.2.2.1 x.2.2.2.1 x.2.2.2.2.1 x.2.2.2.2.2.1 (fun r0 => k (.ret) (Sh.mk F61.e6_0 (r0, ()))) (fun r0 r1 r2 r3 r4 r5 r6 => k (.exit 0) (Sh.mk F61.e6_1 (r0, r1, r2, r3, r4, r5, r6, ())))) (fun _ _ => rfl) (fun _ _ _ => by kernel_rfl) N
noncomputable def F61.C {β : Type} (N : Nat) := (Sealed fun β => @F61.K β).1 β N
theorem F61.C_eq {β : Type} (N : Nat) : @F61.C β N = @F61.K β N := congrFun (congrFun (Sealed fun β => @F61.K β).2 β) N
noncomputable def F61.X (N : Nat) : Ctr Try.prog := mkF 61 Try.f61 F61.fx (F61.cs N) [F61.X6 N] F61.i (fun x k => F61.C N x.1 x.2.1 x.2.2.1 x.2.2.2.1 (fun r0 => k (Sh.mk F61.o0 (r0, ())))) (by intros; rw [F61.C_eq]; kernel_rfl) (by kernel_rfl) (by kernel_rfl) (by kernel_rfl) (by kernel_rfl) rfl (by kernel_rfl) rfl (by kernel_rfl) (by kernel_rfl) (by kernel_rfl) (.dead _ 61) rfl
end Go.Vi.B
/- minecontrol/minecontrolref08.Check -/
namespace Go.Vi.B
open Go.Proofs
set_option linter.unusedVariables false
set_option maxRecDepth 100000
abbrev F62.i : Sh := [(0, .one (.lst .frz 55 kd13))]
abbrev F62.o0 : Sh := [(0, .one .i)]
noncomputable def F62.l12 {β : Type} (N : Nat) : Nat → (List Do) → Int → Int → Int → Int → (List Int) → Int → (Int → Option β) → (List Do → Int → Int → Int → Int → List Int → Int → Bool → Option β) → Option β
 | 0, _, _, _, _, _, _, _, _, _ => none
 | n + 1, v0, v1, v2, v3, v4, v5, v6, k0, k1 =>
  bl (v6 < (v5.length : Int)) (k1 v0 v1 v2 v3 v4 v5 v6 (decide (v6 < (v5.length : Int)))) <|
  ck (0 ≤ v6) <|
  ge (v5[v6.toNat]?) fun x1 =>
  br (x1 < 0) (k0 1) <|
  ck (0 ≤ v6) <|
  ge (v5[v6.toNat]?) fun x2 =>
  br (x2 > 262144) (k0 1) <|
  F62.l12 N n v0 v1 v2 v3 v4 v5 (w (v6 + 1)) k0 k1
noncomputable def F62.l17 {β : Type} (N : Nat) : Nat → (List Do) → Int → Int → Int → Int → (List Int) → Int → (Int → Option β) → (List Do → Int → Int → Int → Int → List Int → Int → Bool → Option β) → Option β
 | 0, _, _, _, _, _, _, _, _, _ => none
 | n + 1, v0, v1, v2, v3, v4, v5, v6, k0, k1 =>
  bl (v6 < (v5.length : Int)) (k1 v0 v1 v2 v3 v4 v5 v6 (decide (v6 < (v5.length : Int)))) <|
  ck (0 ≤ v6) <|
  ge (v5[v6.toNat]?) fun x1 =>
  ck (0 ≤ (w (v6 - 1))) <|
  ge (v5[(w (v6 - 1)).toNat]?) fun x2 =>
  br (x1 ≥ x2) (k0 15) <|
  F62.l17 N n v0 v1 v2 v3 v4 v5 (w (v6 + 1)) k0 k1
noncomputable def F62.l4 {β : Type} (N : Nat) : Nat → (List Do) → Int → Int → (Int → Option β) → (List Do → Int → Int → Bool → Option β) → Option β
 | 0, _, _, _, _, _ => none
 | n + 1, v0, v1, v2, k0, k1 =>
  bl (v2 < (v0.length : Int)) (k1 v0 v1 v2 (decide (v2 < (v0.length : Int)))) <|
  ck (0 ≤ v2) <|
  ge (v0[v2.toNat]?) fun x1 =>
  br (x1.1 < 0) (k0 4) <|
  br ((x1.2.2.length : Int) < 2) (k0 2) <|
  br ((x1.2.2.length : Int) > 6) (k0 2) <|
  F62.l12 N N v0 v1 v2 x1.1 x1.2.1 x1.2.2 0 (fun z3 => k0 z3) fun z4 z5 z6 z7 z8 z9 _ _ =>
  F62.l17 N N z4 z5 z6 z7 z8 z9 1 (fun z12 => k0 z12) fun z13 z14 z15 _ z17 _ _ _ =>
  bl (z17 != (-1)) (F62.l4 N n z13 z14 (w (z15 + 1)) k0 k1) <|
  br (z17 < 0) (k0 15) <|
  br (z17 ≥ (z13.length : Int)) (k0 15) <|
  br (z17 = z15) (k0 15) <|
  ck (0 ≤ z17) <|
  ge (z13[z17.toNat]?) fun x21 =>
  br (x21.2.1 != z15) (k0 15) <|
  F62.l4 N n z13 z14 (w (z15 + 1)) k0 k1
noncomputable def F62.K {β : Type} (N : Nat) (a0 : List Do) (k0 : Int → Option β) : Option β :=
 br ((a0.length : Int) > 16) (k0 2) <|
 F62.l4 N N a0 0 0 (fun z22 => k0 z22) fun _ _ _ _ =>
 k0 0
noncomputable def F62.fx : Fx := ⟨Try.prog, [], [], [(0,[0,2]),(1,[0,2,9]),(2,[2]),(3,[0,2,3]),(4,[0,2,3,13]),(5,[0,2,3]),(6,[0,2,3,4]),(7,[0,2,3,4,22]),(8,[2]),(9,[0,2,3,4,32]),(10,[2]),(11,[0,2,3,4,5]),(12,[0,2,3,4,5,37]),(13,[0,2,3,4,5]),(14,[0,2,3,4,5,53]),(15,[2]),(16,[0,2,3,4,6]),(17,[0,2,3,4,6,58]),(18,[0,2,3,4,6]),(19,[0,2,3,4,6,72]),(20,[2]),(21,[0,2,3,103]),(22,[2]),(23,[2])], 104, []⟩
noncomputable def F62.cs (N : Nat) : List (Ctr Try.prog) := []
abbrev F62.s12 : Sh := [(0, .one (.lst .frz 55 kd13)), (4, .one .i), (6, .one .i), (8, .one (.addr 4 0)), (9, .slot false [.i, .i, .lst .frz 3 .i]), (10, .one .i)]
abbrev F62.e12_0 : Sh := [(4, .one .i)]
abbrev F62.e12_1 : Sh := [(0, .one (.lst .frz 55 kd13)), (4, .one .i), (6, .one .i), (8, .one (.addr 4 0)), (9, .slot false [.i, .i, .lst .frz 3 .i]), (10, .one .i), (74, .one .bool)]
noncomputable def F62.X12 (N : Nat) : LpC Try.prog F62.fx := mkL (F62.cs N) [] ((loopsOf ((loopsOf (bodyOf Try.f62)).getD 0 .skip)).getD 0 .skip) 12 [0,2,3,4,5] (by kernel_rfl) (by kernel_rfl) (by kernel_rfl) F62.s12 (fun n x k => F62.l12 N n x.1 x.2.1 x.2.2.1 x.2.2.2.1 x.2.2.2.2.1 x.2.2.2.2.2.1 x.2.2.2.2.2.2.1 (fun r0 => k (.ret) (Sh.mk F62.e12_0 (r0, ()))) (fun r0 r1 r2 r3 r4 r5 r6 r7 => k (.exit 2) (Sh.mk F62.e12_1 (r0, r1, r2, r3, r4, r5, r6, r7, ())))) (fun _ _ => rfl) (fun _ _ _ => by kernel_rfl) N
abbrev F62.s17 : Sh := [(0, .one (.lst .frz 55 kd13)), (4, .one .i), (6, .one .i), (8, .one (.addr 4 0)), (9, .slot false [.i, .i, .lst .frz 3 .i]), (12, .one .i)]
abbrev F62.e17_0 : Sh := [(4, .one .i)]
abbrev F62.e17_1 : Sh := [(0, .one (.lst .frz 55 kd13)), (4, .one .i), (6, .one .i), (8, .one (.addr 4 0)), (9, .slot false [.i, .i, .lst .frz 3 .i]), (12, .one .i), (116, .one .bool)]
noncomputable def F62.X17 (N : Nat) : LpC Try.prog F62.fx := mkL (F62.cs N) [] ((loopsOf ((loopsOf (bodyOf Try.f62)).getD 0 .skip)).getD 1 .skip) 17 [0,2,3,4,6] (by kernel_rfl) (by kernel_rfl) (by kernel_rfl) F62.s17 (fun n x k => F62.l17 N n x.1 x.2.1 x.2.2.1 x.2.2.2.1 x.2.2.2.2.1 x.2.2.2.2.2.1 x.2.2.2.2.2.2.1 (fun r0 => k (.ret) (Sh.mk F62.e17_0 (r0, ()))) (fun r0 r1 r2 r3 r4 r5 r6 r7 => k (.exit 4) (Sh.mk F62.e17_1 (r0, r1, r2, r3, r4, r5, r6, r7, ())))) (fun _ _ => rfl) (fun _ _ _ => by kernel_rfl) N
abbrev F62.s4 : Sh := [(0, .one (.lst .frz 55 kd13)), (4, .one .i), (6, .one .i)]
abbrev F62.e4_0 : Sh := [(4, .one .i)]
abbrev F62.e4_1 : Sh := [(0, .one (.lst .frz 55 kd13)), (4, .one .i), (6, .one .i), (26, .one .bool)]
noncomputable def F62.X4 (N : Nat) : LpC Try.prog F62.fx := mkL (F62.cs N) [F62.X12 N, F62.X17 N] ((loopsOf (bodyOf Try.f62)).getD 0 .skip) 4 [0,2,3] (by kernel_rfl) (by kernel_rfl) (by kernel_rfl) F62.s4 (fun n x k => F62.l4 N n x.1 x.2.1 x.2.2.1 (fun r0 => k (.ret) (Sh.mk F62.e4_0 (r0, ()))) (fun r0 r1 r2 r3 => k (.exit 0) (Sh.mk F62.e4_1 (r0, r1, r2, r3, ())))) (fun _ _ => rfl) (fun _ _ _ => by kernel_rfl) N
noncomputable def F62.C {β : Type} (N : Nat) := (Sealed fun β => @F62.K β).1 β N
theorem F62.C_eq {β : Type} (N : Nat) : @F62.C β N = @F62.K β N := congrFun (congrFun (Sealed fun β => @F62.K β).2 β) N
noncomputable def F62.X (N : Nat) : Ctr Try.prog := mkF 62 Try.f62 F62.fx (F62.cs N) [F62.X4 N] F62.i (fun x k => F62.C N x.1 (fun r0 => k (Sh.mk F62.o0 (r0, ())))) (by intros; rw [F62.C_eq]; kernel_rfl) (by kernel_rfl) (by kernel_rfl) (by kernel_rfl) (by kernel_rfl) rfl (by kernel_rfl) rfl (by kernel_rfl) (by kernel_rfl) (by kernel_rfl) (.dead _ 62) rfl
end Go.Vi.B
/- minecontrol/minecontrolref09.Check -/
namespace Go.Vi.B
open Go.Proofs
set_option linter.unusedVariables false
set_option maxRecDepth 100000
abbrev F36.i : Sh := [(0, .agg [.lst .frz 62 kd1, .lst .frz 71 kd8, .lst .frz 100 kd11, .lst .frz 55 kd13])]
abbrev F36.o0 : Sh := [(0, .one .i)]
noncomputable def F36.l7 {β : Type} (N : Nat) : Nat → (List Pl) → (List Ro) → (List Fa) → (List Do) → Int → Int → (Int → Option β) → (List Pl → List Ro → List Fa → List Do → Int → Int → Bool → Option β) → Option β
 | 0, _, _, _, _, _, _, _, _ => none
 | n + 1, v0, v1, v2, v3, v4, v5, k0, k1 =>
  bl (v5 < (v2.length : Int)) (k1 v0 v1 v2 v3 v4 v5 (decide (v5 < (v2.length : Int)))) <|
  ck (0 ≤ v5) <|
  ge (v2[v5.toNat]?) fun x1 =>
  F61.C N x1.1 x1.2.1 x1.2.2.1 x1.2.2.2 fun r2 =>
  br (r2 != 0) (k0 r2) <|
  ck (0 ≤ v5) <|
  ge (v2[v5.toNat]?) fun x3 =>
  br (x3.1 ≥ (v1.length : Int)) (k0 4) <|
  F36.l7 N n v0 v1 v2 v3 v4 (w (v5 + 1)) k0 k1
noncomputable def F36.l18 {β : Type} (N : Nat) : Nat → (List Pl) → (List Ro) → (List Fa) → (List Do) → Int → Int → (Int → Option β) → (List Pl → List Ro → List Fa → List Do → Int → Int → Bool → Option β) → Option β
 | 0, _, _, _, _, _, _, _, _ => none
 | n + 1, v0, v1, v2, v3, v4, v5, k0, k1 =>
  bl (v5 < (v3.length : Int)) (k1 v0 v1 v2 v3 v4 v5 (decide (v5 < (v3.length : Int)))) <|
  ck (0 ≤ v5) <|
  ge (v3[v5.toNat]?) fun x1 =>
  br (x1.1 ≥ (v1.length : Int)) (k0 4) <|
  F36.l18 N n v0 v1 v2 v3 v4 (w (v5 + 1)) k0 k1
noncomputable def F36.K {β : Type} (N : Nat) (a0 : List Pl) (a1 : List Ro) (a2 : List Fa) (a3 : List Do) (k0 : Int → Option β) : Option β :=
 F60.C N a0 a1 fun r1 =>
 br (r1 != 0) (k0 r1) <|
 br ((a2.length : Int) > 8) (k0 2) <|
 F36.l7 N N a0 a1 a2 a3 0 0 (fun z4 => k0 z4) fun z5 z6 z7 z8 z9 _ _ =>
 F62.C N z8 fun r12 =>
 br (r12 != 0) (k0 r12) <|
 F36.l18 N N z5 z6 z7 z8 z9 0 (fun z13 => k0 z13) fun _ _ _ _ _ _ _ =>
 k0 0
noncomputable def F36.fx : Fx := ⟨Try.prog, [], [], [(0,[1,2]),(1,[1,2,3]),(2,[1,2,3,12]),(3,[2]),(4,[1,2,17]),(5,[2]),(6,[1,2,4]),(7,[1,2,4,22]),(8,[1,2,4]),(9,[1,2,4,5]),(10,[1,2,4,5,32]),(11,[2]),(12,[1,2,4,44]),(13,[2]),(14,[1,2,6]),(15,[1,2,6,49]),(16,[2]),(17,[1,2,7]),(18,[1,2,7,55]),(19,[1,2,7]),(20,[1,2,7,68]),(21,[2]),(22,[2])], 69, []⟩
noncomputable def F36.cs (N : Nat) : List (Ctr Try.prog) := [F60.X N, F61.X N, F62.X N]
abbrev F36.s7 : Sh := [(2, .one (.addr 1 0)), (3, .slot false [.lst .frz 62 kd1, .lst .frz 71 kd8, .lst .frz 100 kd11, .lst .frz 55 kd13]), (4, .one .i), (8, .one .i)]
abbrev F36.e7_0 : Sh := [(4, .one .i)]
abbrev F36.e7_1 : Sh := [(2, .one (.addr 1 0)), (3, .slot false [.lst .frz 62 kd1, .lst .frz 71 kd8, .lst .frz 100 kd11, .lst .frz 55 kd13]), (4, .one .i), (8, .one .i), (44, .one .bool)]
noncomputable def F36.X7 (N : Nat) : LpC Try.prog F36.fx := mkL (F36.cs N) [] ((loopsOf (bodyOf Try.f36)).getD 0 .skip) 7 [1,2,4] (by kernel_rfl) (by kernel_rfl) (by kernel_rfl) F36.s7 (fun n x k => F36.l7 N n x.1 x.2.1 x.2.2.1 x.2.2.2.1 x.2.2.2.2.1 x.2.2.2.2.2.1 (fun r0 => k (.ret) (Sh.mk F36.e7_0 (r0, ()))) (fun r0 r1 r2 r3 r4 r5 r6 => k (.exit 0) (Sh.mk F36.e7_1 (r0, r1, r2, r3, r4, r5, r6, ())))) (fun _ _ => rfl) (fun _ _ _ => by kernel_rfl) N
abbrev F36.s18 : Sh := [(2, .one (.addr 1 0)), (3, .slot false [.lst .frz 62 kd1, .lst .frz 71 kd8, .lst .frz 100 kd11, .lst .frz 55 kd13]), (4, .one .i), (14, .one .i)]
abbrev F36.e18_0 : Sh := [(4, .one .i)]
abbrev F36.e18_1 : Sh := [(2, .one (.addr 1 0)), (3, .slot false [.lst .frz 62 kd1, .lst .frz 71 kd8, .lst .frz 100 kd11, .lst .frz 55 kd13]), (4, .one .i), (14, .one .i), (110, .one .bool)]
noncomputable def F36.X18 (N : Nat) : LpC Try.prog F36.fx := mkL (F36.cs N) [] ((loopsOf (bodyOf Try.f36)).getD 1 .skip) 18 [1,2,7] (by kernel_rfl) (by kernel_rfl) (by kernel_rfl) F36.s18 (fun n x k => F36.l18 N n x.1 x.2.1 x.2.2.1 x.2.2.2.1 x.2.2.2.2.1 x.2.2.2.2.2.1 (fun r0 => k (.ret) (Sh.mk F36.e18_0 (r0, ()))) (fun r0 r1 r2 r3 r4 r5 r6 => k (.exit 2) (Sh.mk F36.e18_1 (r0, r1, r2, r3, r4, r5, r6, ())))) (fun _ _ => rfl) (fun _ _ _ => by kernel_rfl) N
noncomputable def F36.C {β : Type} (N : Nat) := (Sealed fun β => @F36.K β).1 β N
theorem F36.C_eq {β : Type} (N : Nat) : @F36.C β N = @F36.K β N := congrFun (congrFun (Sealed fun β => @F36.K β).2 β) N
noncomputable def F36.X (N : Nat) : Ctr Try.prog := mkF 36 Try.f36 F36.fx (F36.cs N) [F36.X7 N, F36.X18 N] F36.i (fun x k => F36.C N x.1 x.2.1 x.2.2.1 x.2.2.2.1 (fun r0 => k (Sh.mk F36.o0 (r0, ())))) (by intros; rw [F36.C_eq]; kernel_rfl) (by kernel_rfl) (by kernel_rfl) (by kernel_rfl) (by kernel_rfl) rfl (by kernel_rfl) rfl (by kernel_rfl) (by kernel_rfl) (by kernel_rfl) (.dead _ 36) rfl
end Go.Vi.B
/- minecontrol/minecontrolref09.Right -/
namespace Go.Vi.B
open Go.Proofs
set_option linter.unusedVariables false
set_option maxRecDepth 100000
abbrev F37.i : Sh := [(0, .agg [.lst .frz 62 kd1, .lst .frz 71 kd8, .lst .frz 100 kd11, .lst .frz 55 kd13]), (2, .agg [.lst .frz 3 .i, .lst .frz 3 .i])]
abbrev F37.o0 : Sh := [(0, .one .bool)]
noncomputable def F37.l4 {β : Type} (N : Nat) : Nat → (List Pl) → (List Ro) → (List Fa) → (List Do) → (List Int) → (List Int) → Bool → Int → (Bool → Option β) → (List Pl → List Ro → List Fa → List Do → List Int → List Int → Bool → Int → Bool → Option β) → Option β
 | 0, _, _, _, _, _, _, _, _, _, _ => none
 | n + 1, v0, v1, v2, v3, v4, v5, v6, v7, k0, k1 =>
  bl (v7 < (v4.length : Int)) (k1 v0 v1 v2 v3 v4 v5 v6 v7 (decide (v7 < (v4.length : Int)))) <|
  ck (0 ≤ v7) <|
  ge (v4[v7.toNat]?) fun x1 =>
  br (x1 < (-1)) (k0 false) <|
  ck (0 ≤ v7) <|
  ge (v4[v7.toNat]?) fun x2 =>
  br (x2 > 2) (k0 false) <|
  F37.l4 N n v0 v1 v2 v3 v4 v5 v6 (w (v7 + 1)) k0 k1
noncomputable def F37.l9 {β : Type} (N : Nat) : Nat → (List Pl) → (List Ro) → (List Fa) → (List Do) → (List Int) → (List Int) → Bool → Int → (Bool → Option β) → (List Pl → List Ro → List Fa → List Do → List Int → List Int → Bool → Int → Bool → Option β) → Option β
 | 0, _, _, _, _, _, _, _, _, _, _ => none
 | n + 1, v0, v1, v2, v3, v4, v5, v6, v7, k0, k1 =>
  bl (v7 < (v5.length : Int)) (k1 v0 v1 v2 v3 v4 v5 v6 v7 (decide (v7 < (v5.length : Int)))) <|
  ck (0 ≤ v7) <|
  ge (v5[v7.toNat]?) fun x1 =>
  br (x1 < (-1)) (k0 false) <|
  ck (0 ≤ v7) <|
  ge (v5[v7.toNat]?) fun x2 =>
  ck (0 ≤ v7) <|
  ge (v3[v7.toNat]?) fun x3 =>
  br (x2 ≥ (x3.2.2.length : Int)) (k0 false) <|
  F37.l9 N n v0 v1 v2 v3 v4 v5 v6 (w (v7 + 1)) k0 k1
noncomputable def F37.K {β : Type} (N : Nat) (a0 : List Pl) (a1 : List Ro) (a2 : List Fa) (a3 : List Do) (a4 a5 : List Int) (k0 : Bool → Option β) : Option β :=
 F36.C N a0 a1 a2 a3 fun r1 =>
 br (r1 != 0) (k0 false) <|
 br ((a4.length : Int) != (a2.length : Int)) (k0 false) <|
 br ((a5.length : Int) != (a3.length : Int)) (k0 false) <|
 F37.l4 N N a0 a1 a2 a3 a4 a5 false 0 (fun z3 => k0 z3) fun z4 z5 z6 z7 z8 z9 z10 _ _ =>
 F37.l9 N N z4 z5 z6 z7 z8 z9 z10 0 (fun z13 => k0 z13) fun _ _ _ _ _ _ _ _ _ =>
 k0 true
noncomputable def F37.fx : Fx := ⟨Try.prog, [], [], [(0,[2,3,4]),(1,[2,3,4,27]),(2,[4]),(3,[2,3,4,5]),(4,[2,3,4,5,32]),(5,[2,3,4,5]),(6,[2,3,4,5,48]),(7,[4]),(8,[2,3,4,6]),(9,[2,3,4,6,53]),(10,[2,3,4,6]),(11,[2,3,4,6,76]),(12,[4]),(13,[4])], 77, []⟩
noncomputable def F37.cs (N : Nat) : List (Ctr Try.prog) := [F36.X N]
abbrev F37.s4 : Sh := [(4, .one (.addr 2 0)), (5, .slot false [.lst .frz 62 kd1, .lst .frz 71 kd8, .lst .frz 100 kd11, .lst .frz 55 kd13]), (6, .one (.addr 3 0)), (7, .slot false [.lst .frz 3 .i, .lst .frz 3 .i]), (8, .one .bool), (10, .one .i)]
abbrev F37.e4_0 : Sh := [(8, .one .bool)]
abbrev F37.e4_1 : Sh := [(4, .one (.addr 2 0)), (5, .slot false [.lst .frz 62 kd1, .lst .frz 71 kd8, .lst .frz 100 kd11, .lst .frz 55 kd13]), (6, .one (.addr 3 0)), (7, .slot false [.lst .frz 3 .i, .lst .frz 3 .i]), (8, .one .bool), (10, .one .i), (64, .one .bool)]
noncomputable def F37.X4 (N : Nat) : LpC Try.prog F37.fx := mkL (F37.cs N) [] ((loopsOf (bodyOf Try.f37)).getD 0 .skip) 4 [2,3,4,5] (by kernel_rfl) (by kernel_rfl) (by kernel_rfl) F37.s4 (fun n x k => F37.l4 N n x.1 x.2.1 x.2.2.1 x.2.2.2.1 x.2.2.2.2.1 x.2.2.2.2.2.1 x.2.2.2.2.2.2.1 x.2.2.2.2.2.2.2.1 (fun r0 => k (.ret) (Sh.mk F37.e4_0 (r0, ()))) (fun r0 r1 r2 r3 r4 r5 r6 r7 r8 => k (.exit 0) (Sh.mk F37.e4_1 (r0, r1, r2, r3, r4, r5, r6, r7, r8, ())))) (fun _ _ => rfl) (fun _ _ _ => by kernel_rfl) N
abbrev F37.s9 : Sh := [(4, .one (.addr 2 0)), (5, .slot false [.lst .frz 62 kd1, .lst .frz 71 kd8, .lst .frz 100 kd11, .lst .frz 55 kd13]), (6, .one (.addr 3 0)), (7, .slot false [.lst .frz 3 .i, .lst .frz 3 .i]), (8, .one .bool), (12, .one .i)]
abbrev F37.e9_0 : Sh := [(8, .one .bool)]
abbrev F37.e9_1 : Sh := [(4, .one (.addr 2 0)), (5, .slot false [.lst .frz 62 kd1, .lst .frz 71 kd8, .lst .frz 100 kd11, .lst .frz 55 kd13]), (6, .one (.addr 3 0)), (7, .slot false [.lst .frz 3 .i, .lst .frz 3 .i]), (8, .one .bool), (12, .one .i), (106, .one .bool)]
noncomputable def F37.X9 (N : Nat) : LpC Try.prog F37.fx := mkL (F37.cs N) [] ((loopsOf (bodyOf Try.f37)).getD 1 .skip) 9 [2,3,4,6] (by kernel_rfl) (by kernel_rfl) (by kernel_rfl) F37.s9 (fun n x k => F37.l9 N n x.1 x.2.1 x.2.2.1 x.2.2.2.1 x.2.2.2.2.1 x.2.2.2.2.2.1 x.2.2.2.2.2.2.1 x.2.2.2.2.2.2.2.1 (fun r0 => k (.ret) (Sh.mk F37.e9_0 (r0, ()))) (fun r0 r1 r2 r3 r4 r5 r6 r7 r8 => k (.exit 2) (Sh.mk F37.e9_1 (r0, r1, r2, r3, r4, r5, r6, r7, r8, ())))) (fun _ _ => rfl) (fun _ _ _ => by kernel_rfl) N
noncomputable def F37.C {β : Type} (N : Nat) := (Sealed fun β => @F37.K β).1 β N
theorem F37.C_eq {β : Type} (N : Nat) : @F37.C β N = @F37.K β N := congrFun (congrFun (Sealed fun β => @F37.K β).2 β) N
noncomputable def F37.X (N : Nat) : Ctr Try.prog := mkF 37 Try.f37 F37.fx (F37.cs N) [F37.X4 N, F37.X9 N] F37.i (fun x k => F37.C N x.1 x.2.1 x.2.2.1 x.2.2.2.1 x.2.2.2.2.1 x.2.2.2.2.2.1 (fun r0 => k (Sh.mk F37.o0 (r0, ())))) (by intros; rw [F37.C_eq]; kernel_rfl) (by kernel_rfl) (by kernel_rfl) (by kernel_rfl) (by kernel_rfl) rfl (by kernel_rfl) rfl (by kernel_rfl) (by kernel_rfl) (by kernel_rfl) (.dead _ 37) rfl
end Go.Vi.B
/- minecontrol/plan.spanIn -/
namespace Go.Vi.B
open Go.Proofs
set_option linter.unusedVariables false
set_option maxRecDepth 100000
abbrev F69.i : Sh := [(0, .agg [.i, .i]), (2, .one .i), (4, .one .i)]
abbrev F69.o0 : Sh := [(0, .one .bool)]
noncomputable def F69.K {β : Type} (N : Nat) (a0 a1 a2 a3 : Int) (k0 : Bool → Option β) : Option β :=
 bl (a2 ≤ a0) (k0 false) <|
 br (a0 ≤ a1) (k0 (decide (a1 ≤ a3))) <|
 k0 false
noncomputable def F69.fx : Fx := ⟨Try.prog, [], [], [(0,[1,2,3]),(1,[6])], 24, []⟩
noncomputable def F69.cs (N : Nat) : List (Ctr Try.prog) := []
noncomputable def F69.C {β : Type} (N : Nat) := (Sealed fun β => @F69.K β).1 β N
theorem F69.C_eq {β : Type} (N : Nat) : @F69.C β N = @F69.K β N := congrFun (congrFun (Sealed fun β => @F69.K β).2 β) N
noncomputable def F69.X (N : Nat) : Ctr Try.prog := mkF 69 Try.f69 F69.fx (F69.cs N) [] F69.i (fun x k => F69.C N x.1 x.2.1 x.2.2.1 x.2.2.2.1 (fun r0 => k (Sh.mk F69.o0 (r0, ())))) (by intros; rw [F69.C_eq]; kernel_rfl) (by kernel_rfl) (by kernel_rfl) (by kernel_rfl) (by kernel_rfl) rfl (by kernel_rfl) rfl (by kernel_rfl) (by kernel_rfl) (by kernel_rfl) (.dead _ 69) rfl
end Go.Vi.B
/- minecontrol/plan.Check -/
namespace Go.Vi.B
open Go.Proofs
set_option linter.unusedVariables false
set_option maxRecDepth 100000
abbrev F55.i : Sh := [(0, .agg [.lst .frz 62 kd1, .lst .frz 71 kd8])]
abbrev F55.o0 : Sh := [(0, .one .i)]
noncomputable def F55.l4 {β : Type} (N : Nat) : Nat → (List Pl) → (List Ro) → Int → (List Pl) → Int → Int → (Int → Option β) → (List Pl → List Ro → Int → List Pl → Int → Int → Bool → Option β) → Option β
 | 0, _, _, _, _, _, _, _, _ => none
 | n + 1, v0, v1, v2, v3, v4, v5, k0, k1 =>
  bl (v5 < v4) (k1 v0 v1 v2 v3 v4 v5 (decide (v5 < v4))) <|
  ck (0 ≤ v5) <|
  ge (v3[v5.toNat]?) fun x1 =>
  br (x1.1 < (-10000)) (k0 1) <|
  br (x1.1 > 10000) (k0 1) <|
  F55.l4 N n v0 v1 v2 v3 v4 (w (v5 + 1)) k0 k1
noncomputable def F55.l11 {β : Type} (N : Nat) : Nat → Int → Int → (List Ro) → Int → Int → (Int → Option β) → (Int → Int → List Ro → Int → Int → Bool → Option β) → Option β
 | 0, _, _, _, _, _, _, _ => none
 | n + 1, v0, v1, v2, v3, v4, k0, k1 =>
  bl (v4 < v3) (k1 v0 v1 v2 v3 v4 (decide (v4 < v3))) <|
  ck (0 ≤ v4) <|
  ge (v2[v4.toNat]?) fun x1 =>
  br (x1.1 < 0) (k0 4) <|
  br (x1.1 ≥ v1) (k0 4) <|
  br (x1.2.1 < 0) (k0 4) <|
  br (x1.2.1 ≥ v1) (k0 4) <|
  br (x1.1 = x1.2.1) (k0 4) <|
  br (x1.2.2.1 < 1) (k0 1) <|
  br (x1.2.2.1 > 100000) (k0 1) <|
  br (x1.2.2.2.1 < 1) (k0 1) <|
  br (x1.2.2.2.1 > 1000) (k0 1) <|
  F69.C N x1.2.2.2.2.2.2.1.1 x1.2.2.2.2.2.2.1.2 1 262144 fun r2 =>
  br (!r2) (k0 1) <|
  F69.C N x1.2.2.2.2.2.2.2.1 x1.2.2.2.2.2.2.2.2 (-2199023255552) 2199023255552 fun r3 =>
  br (!r3) (k0 1) <|
  F55.l11 N n v0 v1 v2 v3 (w (v4 + 1)) k0 k1
noncomputable def F55.K {β : Type} (N : Nat) (a0 : List Pl) (a1 : List Ro) (k0 : Int → Option β) : Option β :=
 br ((a0.length : Int) > 64) (k0 2) <|
 br ((a1.length : Int) > 128) (k0 2) <|
 F55.l4 N N a0 a1 0 a0 (a0.length : Int) 0 (fun z2 => k0 z2) fun z3 z4 z5 _ _ _ _ =>
 F55.l11 N N z5 (z3.length : Int) z4 (z4.length : Int) 0 (fun z10 => k0 z10) fun _ _ _ _ _ _ =>
 k0 0
noncomputable def F55.fx : Fx := ⟨Try.prog, [], [], [(0,[1,2]),(1,[1,2,17]),(2,[2]),(3,[1,2,19,20,21]),(4,[1,2,19,20,21,22]),(5,[1,2,4,19,20,21]),(6,[1,2,19,20,21,32]),(7,[2]),(8,[1,2,19,20,21]),(9,[1,2,5]),(10,[2,5,38,39,40]),(11,[2,5,38,39,40,41]),(12,[2,5,7,38,39,40]),(13,[2,5,7,38,39,40,70]),(14,[2]),(15,[2,5,7,38,39,40,88]),(16,[2]),(17,[2,5,38,39,40,98]),(18,[2]),(19,[2,5,38,39,40]),(20,[2])], 100, []⟩
noncomputable def F55.cs (N : Nat) : List (Ctr Try.prog) := [F69.X N]
abbrev F55.s4 : Sh := [(2, .one (.addr 1 0)), (3, .slot false [.lst .frz 62 kd1, .lst .frz 71 kd8]), (4, .one .i), (38, .one (.lst .frz 62 kd1)), (40, .one .i), (42, .one .i)]
abbrev F55.e4_0 : Sh := [(4, .one .i)]
abbrev F55.e4_1 : Sh := [(2, .one (.addr 1 0)), (3, .slot false [.lst .frz 62 kd1, .lst .frz 71 kd8]), (4, .one .i), (38, .one (.lst .frz 62 kd1)), (40, .one .i), (42, .one .i), (44, .one .bool)]
noncomputable def F55.X4 (N : Nat) : LpC Try.prog F55.fx := mkL (F55.cs N) [] ((loopsOf (bodyOf Try.f55)).getD 0 .skip) 4 [1,2,19,20,21] (by kernel_rfl) (by kernel_rfl) (by kernel_rfl) F55.s4 (fun n x k => F55.l4 N n x.1 x.2.1 x.2.2.1 x.2.2.2.1 x.2.2.2.2.1 x.2.2.2.2.2.1 (fun r0 => k (.ret) (Sh.mk F55.e4_0 (r0, ()))) (fun r0 r1 r2 r3 r4 r5 r6 => k (.exit 0) (Sh.mk F55.e4_1 (r0, r1, r2, r3, r4, r5, r6, ())))) (fun _ _ => rfl) (fun _ _ _ => by kernel_rfl) N
abbrev F55.s11 : Sh := [(4, .one .i), (10, .one .i), (76, .one (.lst .frz 71 kd8)), (78, .one .i), (80, .one .i)]
abbrev F55.e11_0 : Sh := [(4, .one .i)]
abbrev F55.e11_1 : Sh := [(4, .one .i), (10, .one .i), (76, .one (.lst .frz 71 kd8)), (78, .one .i), (80, .one .i), (82, .one .bool)]
noncomputable def F55.X11 (N : Nat) : LpC Try.prog F55.fx := mkL (F55.cs N) [] ((loopsOf (bodyOf Try.f55)).getD 1 .skip) 11 [2,5,38,39,40] (by kernel_rfl) (by kernel_rfl) (by kernel_rfl) F55.s11 (fun n x k => F55.l11 N n x.1 x.2.1 x.2.2.1 x.2.2.2.1 x.2.2.2.2.1 (fun r0 => k (.ret) (Sh.mk F55.e11_0 (r0, ()))) (fun r0 r1 r2 r3 r4 r5 => k (.exit 2) (Sh.mk F55.e11_1 (r0, r1, r2, r3, r4, r5, ())))) (fun _ _ => rfl) (fun _ _ _ => by kernel_rfl) N
noncomputable def F55.C {β : Type} (N : Nat) := (Sealed fun β => @F55.K β).1 β N
theorem F55.C_eq {β : Type} (N : Nat) : @F55.C β N = @F55.K β N := congrFun (congrFun (Sealed fun β => @F55.K β).2 β) N
noncomputable def F55.X (N : Nat) : Ctr Try.prog := mkF 55 Try.f55 F55.fx (F55.cs N) [F55.X4 N, F55.X11 N] F55.i (fun x k => F55.C N x.1 x.2.1 (fun r0 => k (Sh.mk F55.o0 (r0, ())))) (by intros; rw [F55.C_eq]; kernel_rfl) (by kernel_rfl) (by kernel_rfl) (by kernel_rfl) (by kernel_rfl) rfl (by kernel_rfl) rfl (by kernel_rfl) (by kernel_rfl) (by kernel_rfl) (.dead _ 55) rfl
end Go.Vi.B
/- minecontrol/fan.Check -/
namespace Go.Vi.B
open Go.Proofs
set_option linter.unusedVariables false
set_option maxRecDepth 100000
abbrev F56.i : Sh := [(0, .agg [.i, .bool, .bool, .lst .frz 116 kd0])]
abbrev F56.o0 : Sh := [(0, .one .i)]
noncomputable def F56.l6 {β : Type} (N : Nat) : Nat → Int → Bool → Bool → (List Sp) → Int → (List Sp) → Int → Int → (Int → Option β) → (Int → Bool → Bool → List Sp → Int → List Sp → Int → Int → Bool → Option β) → Option β
 | 0, _, _, _, _, _, _, _, _, _, _ => none
 | n + 1, v0, v1, v2, v3, v4, v5, v6, v7, k0, k1 =>
  bl (v7 < v6) (k1 v0 v1 v2 v3 v4 v5 v6 v7 (decide (v7 < v6))) <|
  ck (0 ≤ v7) <|
  ge (v5[v7.toNat]?) fun x1 =>
  br (x1.1 < (-1048576)) (k0 1) <|
  br (x1.1 > 1048576) (k0 1) <|
  br (x1.2 < 0) (k0 1) <|
  br (x1.2 > 2199023255552) (k0 1) <|
  bl (v7 > 0) (F56.l6 N n v0 v1 v2 v3 v4 v5 v6 (w (v7 + 1)) k0 k1) <|
  ck (0 ≤ (w (v7 - 1))) <|
  ge (v3[(w (v7 - 1)).toNat]?) fun x2 =>
  br (x1.1 ≤ x2.1) (k0 14) <|
  ck (0 ≤ (w (v7 - 1))) <|
  ge (v3[(w (v7 - 1)).toNat]?) fun x3 =>
  br (x1.2 > x3.2) (k0 14) <|
  F56.l6 N n v0 v1 v2 v3 v4 v5 v6 (w (v7 + 1)) k0 k1
noncomputable def F56.K {β : Type} (N : Nat) (a0 : Int) (a1 a2 : Bool) (a3 : List Sp) (k0 : Int → Option β) : Option β :=
 br (a0 < 0) (k0 4) <|
 br ((a3.length : Int) < 1) (k0 2) <|
 br ((a3.length : Int) > 8) (k0 2) <|
 F56.l6 N N a0 a1 a2 a3 0 a3 (a3.length : Int) 0 (fun z4 => k0 z4) fun _ _ _ _ _ _ _ _ _ =>
 k0 0
noncomputable def F56.fx : Fx := ⟨Try.prog, [], [], [(0,[1,2]),(1,[1,2,7]),(2,[2]),(3,[1,2,17]),(4,[2]),(5,[1,2,19,20,21]),(6,[1,2,19,20,21,22]),(7,[1,2,3,4,19,20,21]),(8,[1,2,3,4,19,20,21,43]),(9,[2]),(10,[1,2,19,20,21,69]),(11,[2]),(12,[1,2,19,20,21]),(13,[2])], 71, []⟩
noncomputable def F56.cs (N : Nat) : List (Ctr Try.prog) := []
abbrev F56.s6 : Sh := [(2, .one (.addr 1 0)), (3, .slot false [.i, .bool, .bool, .lst .frz 116 kd0]), (4, .one .i), (38, .one (.lst .frz 116 kd0)), (40, .one .i), (42, .one .i)]
abbrev F56.e6_0 : Sh := [(4, .one .i)]
abbrev F56.e6_1 : Sh := [(2, .one (.addr 1 0)), (3, .slot false [.i, .bool, .bool, .lst .frz 116 kd0]), (4, .one .i), (38, .one (.lst .frz 116 kd0)), (40, .one .i), (42, .one .i), (44, .one .bool)]
noncomputable def F56.X6 (N : Nat) : LpC Try.prog F56.fx := mkL (F56.cs N) [] ((loopsOf (bodyOf Try.f56)).getD 0 .skip) 6 [1,2,19,20,21] (by kernel_rfl) (by kernel_rfl) (by kernel_rfl) F56.s6 (fun n x k => F56.l6 N n x.1 x.2.1 x.2.2.1 x.2.2.2.1 x.2.2.2.2.1 x.2.2.2.2.2.1 x.2.2.2.2.2.2.1 x.2.2.2.2.2.2.2.1 (fun r0 => k (.ret) (Sh.mk F56.e6_0 (r0, ()))) (fun r0 r1 r2 r3 r4 r5 r6 r7 r8 => k (.exit 0) (Sh.mk F56.e6_1 (r0, r1, r2, r3, r4, r5, r6, r7, r8, ())))) (fun _ _ => rfl) (fun _ _ _ => by kernel_rfl) N
noncomputable def F56.C {β : Type} (N : Nat) := (Sealed fun β => @F56.K β).1 β N
theorem F56.C_eq {β : Type} (N : Nat) : @F56.C β N = @F56.K β N := congrFun (congrFun (Sealed fun β => @F56.K β).2 β) N
noncomputable def F56.X (N : Nat) : Ctr Try.prog := mkF 56 Try.f56 F56.fx (F56.cs N) [F56.X6 N] F56.i (fun x k => F56.C N x.1 x.2.1 x.2.2.1 x.2.2.2.1 (fun r0 => k (Sh.mk F56.o0 (r0, ())))) (by intros; rw [F56.C_eq]; kernel_rfl) (by kernel_rfl) (by kernel_rfl) (by kernel_rfl) (by kernel_rfl) rfl (by kernel_rfl) rfl (by kernel_rfl) (by kernel_rfl) (by kernel_rfl) (.dead _ 56) rfl
end Go.Vi.B
/- minecontrol/door.Check -/
namespace Go.Vi.B
open Go.Proofs
set_option linter.unusedVariables false
set_option maxRecDepth 100000
abbrev F57.i : Sh := [(0, .one (.lst .frz 55 kd13))]
abbrev F57.o0 : Sh := [(0, .one .i)]
noncomputable def F57.l12 {β : Type} (N : Nat) : Nat → (List Do) → Int → Int → Int → Int → (List Int) → Bool → (List Do) → Int → Int → (List Int) → Int → Int → (Int → Option β) → (List Do → Int → Int → Int → Int → List Int → Bool → List Do → Int → Int → List Int → Int → Int → Bool → Option β) → Option β
 | 0, _, _, _, _, _, _, _, _, _, _, _, _, _, _, _ => none
 | n + 1, v0, v1, v2, v3, v4, v5, v6, v7, v8, v9, v10, v11, v12, k0, k1 =>
  bl (v12 < v11) (k1 v0 v1 v2 v3 v4 v5 v6 v7 v8 v9 v10 v11 v12 (decide (v12 < v11))) <|
  ck (0 ≤ v12) <|
  ge (v10[v12.toNat]?) fun x1 =>
  br (x1 < 0) (k0 1) <|
  br (x1 > 262144) (k0 1) <|
  bl v6 (F57.l12 N n v0 v1 v2 v3 v4 v5 false v7 v8 v9 v10 v11 (w (v12 + 1)) k0 k1) <|
  br (v12 = 0) (F57.l12 N n v0 v1 v2 v3 v4 v5 true v7 v8 v9 v10 v11 (w (v12 + 1)) k0 k1) <|
  ck (0 ≤ (w (v12 - 1))) <|
  ge (v5[(w (v12 - 1)).toNat]?) fun x2 =>
  F57.l12 N n v0 v1 v2 v3 v4 v5 (decide (x1 < x2)) v7 v8 v9 v10 v11 (w (v12 + 1)) k0 k1
noncomputable def F57.l4 {β : Type} (N : Nat) : Nat → (List Do) → Int → (List Do) → Int → Int → (Int → Option β) → (List Do → Int → List Do → Int → Int → Bool → Option β) → Option β
 | 0, _, _, _, _, _, _, _ => none
 | n + 1, v0, v1, v2, v3, v4, k0, k1 =>
  bl (v4 < v3) (k1 v0 v1 v2 v3 v4 (decide (v4 < v3))) <|
  ck (0 ≤ v4) <|
  ge (v2[v4.toNat]?) fun x1 =>
  br (x1.1 < 0) (k0 4) <|
  br ((x1.2.2.length : Int) < 2) (k0 2) <|
  br ((x1.2.2.length : Int) > 6) (k0 2) <|
  F57.l12 N N v0 v1 v4 x1.1 x1.2.1 x1.2.2 true v2 v3 v4 x1.2.2 (x1.2.2.length : Int) 0 (fun z3 => k0 z3) fun z4 z5 z6 _ z8 _ z10 z11 z12 z13 _ _ _ _ =>
  br (!z10) (k0 15) <|
  bl (z8 != (-1)) (F57.l4 N n z4 z5 z11 z12 (w (z13 + 1)) k0 k1) <|
  br (z8 < 0) (k0 15) <|
  br (z8 ≥ (z4.length : Int)) (k0 15) <|
  br (z8 = z6) (k0 15) <|
  ck (0 ≤ z8) <|
  ge (z4[z8.toNat]?) fun x18 =>
  br (x18.2.1 != z6) (k0 15) <|
  F57.l4 N n z4 z5 z11 z12 (w (z13 + 1)) k0 k1
noncomputable def F57.K {β : Type} (N : Nat) (a0 : List Do) (k0 : Int → Option β) : Option β :=
 br ((a0.length : Int) > 16) (k0 2) <|
 F57.l4 N N a0 0 a0 (a0.length : Int) 0 (fun z19 => k0 z19) fun _ _ _ _ _ _ =>
 k0 0
noncomputable def F57.fx : Fx := ⟨Try.prog, [], [], [(0,[0,2]),(1,[0,2,10]),(2,[2]),(3,[0,2,11,12,13]),(4,[0,2,11,12,13,14]),(5,[0,2,3,4,11,12,13]),(6,[0,2,3,4,11,12,13,20]),(7,[2]),(8,[0,2,3,4,11,12,13,30]),(9,[2]),(10,[0,2,3,4,5,11,12,13]),(11,[0,2,3,4,5,11,12,13,32,33,34]),(12,[0,2,3,4,5,11,12,13,32,33,34,35]),(13,[0,2,3,4,5,6,7,11,12,13,32,33,34]),(14,[0,2,3,4,5,6,7,11,12,13,32,33,34,44]),(15,[2]),(16,[0,2,3,4,5,11,12,13,32,33,34]),(17,[0,2,3,4,5,11,12,13,32,33,34]),(18,[0,2,3,4,11,12,13,62]),(19,[2]),(20,[0,2,11,12,13,93]),(21,[2]),(22,[0,2,11,12,13]),(23,[2])], 95, []⟩
noncomputable def F57.cs (N : Nat) : List (Ctr Try.prog) := []
abbrev F57.s12 : Sh := [(0, .one (.lst .frz 55 kd13)), (4, .one .i), (6, .one .i), (8, .one (.addr 4 0)), (9, .slot false [.i, .i, .lst .frz 3 .i]), (10, .one .bool), (22, .one (.lst .frz 55 kd13)), (24, .one .i), (26, .one .i), (64, .one (.lst .frz 3 .i)), (66, .one .i), (68, .one .i)]
abbrev F57.e12_0 : Sh := [(4, .one .i)]
abbrev F57.e12_1 : Sh := [(0, .one (.lst .frz 55 kd13)), (4, .one .i), (6, .one .i), (8, .one (.addr 4 0)), (9, .slot false [.i, .i, .lst .frz 3 .i]), (10, .one .bool), (22, .one (.lst .frz 55 kd13)), (24, .one .i), (26, .one .i), (64, .one (.lst .frz 3 .i)), (66, .one .i), (68, .one .i), (70, .one .bool)]
noncomputable def F57.X12 (N : Nat) : LpC Try.prog F57.fx := mkL (F57.cs N) [] ((loopsOf ((loopsOf (bodyOf Try.f57)).getD 0 .skip)).getD 0 .skip) 12 [0,2,3,4,5,11,12,13,32,33,34] (by kernel_rfl) (by kernel_rfl) (by kernel_rfl) F57.s12 (fun n x k => F57.l12 N n x.1 x.2.1 x.2.2.1 x.2.2.2.1 x.2.2.2.2.1 x.2.2.2.2.2.1 x.2.2.2.2.2.2.1 x.2.2.2.2.2.2.2.1 x.2.2.2.2.2.2.2.2.1 x.2.2.2.2.2.2.2.2.2.1 x.2.2.2.2.2.2.2.2.2.2.1 x.2.2.2.2.2.2.2.2.2.2.2.1 x.2.2.2.2.2.2.2.2.2.2.2.2.1 (fun r0 => k (.ret) (Sh.mk F57.e12_0 (r0, ()))) (fun r0 r1 r2 r3 r4 r5 r6 r7 r8 r9 r10 r11 r12 r13 => k (.exit 2) (Sh.mk F57.e12_1 (r0, r1, r2, r3, r4, r5, r6, r7, r8, r9, r10, r11, r12, r13, ())))) (fun _ _ => rfl) (fun _ _ _ => by kernel_rfl) N
abbrev F57.s4 : Sh := [(0, .one (.lst .frz 55 kd13)), (4, .one .i), (22, .one (.lst .frz 55 kd13)), (24, .one .i), (26, .one .i)]
abbrev F57.e4_0 : Sh := [(4, .one .i)]
abbrev F57.e4_1 : Sh := [(0, .one (.lst .frz 55 kd13)), (4, .one .i), (22, .one (.lst .frz 55 kd13)), (24, .one .i), (26, .one .i), (28, .one .bool)]
noncomputable def F57.X4 (N : Nat) : LpC Try.prog F57.fx := mkL (F57.cs N) [F57.X12 N] ((loopsOf (bodyOf Try.f57)).getD 0 .skip) 4 [0,2,11,12,13] (by kernel_rfl) (by kernel_rfl) (by kernel_rfl) F57.s4 (fun n x k => F57.l4 N n x.1 x.2.1 x.2.2.1 x.2.2.2.1 x.2.2.2.2.1 (fun r0 => k (.ret) (Sh.mk F57.e4_0 (r0, ()))) (fun r0 r1 r2 r3 r4 r5 => k (.exit 0) (Sh.mk F57.e4_1 (r0, r1, r2, r3, r4, r5, ())))) (fun _ _ => rfl) (fun _ _ _ => by kernel_rfl) N
noncomputable def F57.C {β : Type} (N : Nat) := (Sealed fun β => @F57.K β).1 β N
theorem F57.C_eq {β : Type} (N : Nat) : @F57.C β N = @F57.K β N := congrFun (congrFun (Sealed fun β => @F57.K β).2 β) N
noncomputable def F57.X (N : Nat) : Ctr Try.prog := mkF 57 Try.f57 F57.fx (F57.cs N) [F57.X4 N] F57.i (fun x k => F57.C N x.1 (fun r0 => k (Sh.mk F57.o0 (r0, ())))) (by intros; rw [F57.C_eq]; kernel_rfl) (by kernel_rfl) (by kernel_rfl) (by kernel_rfl) (by kernel_rfl) rfl (by kernel_rfl) rfl (by kernel_rfl) (by kernel_rfl) (by kernel_rfl) (.dead _ 57) rfl
end Go.Vi.B
/- What the checks of mines compute. -/
namespace Go.Vi.B
open Go.Proofs Go.Vi.A
set_option linter.unusedVariables false
set_option linter.unusedSimpArgs false
variable {β : Type} {N : Nat} (hN : 1000 ≤ N)
theorem span1 (a b lo hi : Int) (k : Bool → Option β) : F69.C N a b lo hi k = k (decide (SpanOk a b lo hi)) := by
  rw [F69.C_eq]; unfold F69.K; simp only [res]
  by_cases h1 : lo ≤ a <;> by_cases h2 : a ≤ b <;> simp [SpanOk, h1, h2]
theorem span2 (a b lo hi : Int) (k : Bool → Option β) : F74.C N a b lo hi k = k (decide (SpanOk a b lo hi)) := by
  rw [F74.C_eq]; unfold F74.K; simp only [res]
  by_cases h1 : lo ≤ a <;> by_cases h2 : a ≤ b <;> simp [SpanOk, h1, h2]
include hN in
theorem plan_Check (pl : List Pl) (ro : List Ro) (k : Int → Option β) : F55.C N pl ro k = k (mineE pl ro) := by
  rw [F55.C_eq]; unfold F55.K mineE
  simp only [res]
  refine ifK fun c1 => ifK fun c2 => ?_
  have h1 := lerr (xs := pl) placeE (L := fun n i => F55.l4 N n pl ro 0 pl (pl.length : Int) (i : Int) k (fun z3 z4 z5 _ _ _ _ => F55.l11 N N z5 (z3.length : Int) z4 (z4.length : Int) 0 (fun z10 => k z10) fun _ _ _ _ _ _ => k 0)) (k0 := k)
    (k1 := F55.l11 N N 0 (pl.length : Int) ro (ro.length : Int) 0 (fun z10 => k z10) fun _ _ _ _ _ _ => k 0) (fun n => by
      simp only [F55.l4, res]; rw [if_neg (by omega)]) (fun i x hx n => by
      have hi := idx hx
      simp only [F55.l4, res, Int.toNat_natCast, hx, ge_some, w_succ (show i < 4000000000 by omega)]
      rw [if_pos (by omega), if_pos (by omega)]
      unfold placeE
      exact ifE (by decide) fun _ => ifE (by decide) fun _ => out0) N 0 (by omega) (by omega)
  refine h1.trans (thnK fun _ => ?_)
  have h2 := lerr (xs := ro) (roadE pl.length) (L := fun n i => F55.l11 N n 0 (pl.length : Int) ro (ro.length : Int) (i : Int) k fun _ _ _ _ _ _ => k 0) (k0 := k)
    (k1 := k 0) (fun n => by
      simp only [F55.l11, res]; rw [if_neg (by omega)]) (fun i x hx n => by
      have hi := idx hx
      simp only [F55.l11, res, Int.toNat_natCast, hx, ge_some, w_succ (show i < 4000000000 by omega), span1]
      rw [if_pos (by omega), if_pos (by omega)]
      unfold roadE
      exact ifE (by decide) fun _ => ifE (by decide) fun _ => ifE (by decide) fun _ => ifE (by decide) fun _ => ifE (by decide) fun _ => ifE (by decide) fun _ => ifE (by decide) fun _ => ifE (by decide) fun _ => ifE (by decide) fun _ =>
        ifE' (by decide) fun _ => ifE' (by decide) fun _ => out0) N 0 (by omega) (by omega)
  refine h2.trans ?_
  rw [List.drop_zero]; split
  · rw [‹ferr _ _ _ = 0›]
  · rfl
include hN in
theorem ref01_Check (pl : List Pl) (ro : List Ro) (k : Int → Option β) : F60.C N pl ro k = k (mineE pl ro) := by
  rw [F60.C_eq]; unfold F60.K mineE
  simp only [res]
  refine ifK fun c1 => ifK fun c2 => ?_
  have h1 := lerr (xs := pl) placeE (L := fun n i => F60.l4 N n pl ro 0 (i : Int) k (fun z3 z4 z5 _ _ => F60.l10 N N z3 z4 z5 0 (fun z10 => k z10) fun _ _ _ _ _ => k 0)) (k0 := k)
    (k1 := F60.l10 N N pl ro 0 0 (fun z10 => k z10) fun _ _ _ _ _ => k 0) (fun n => by
      simp only [F60.l4, res]; rw [if_neg (by omega)]) (fun i x hx n => by
      have hi := idx hx
      simp only [F60.l4, res, Int.toNat_natCast, hx, ge_some, w_succ (show i < 4000000000 by omega)]
      rw [if_pos (by omega), if_pos (by omega)]
      unfold placeE
      exact ifE (by decide) fun _ => ifE (by decide) fun _ => out0) N 0 (by omega) (by omega)
  refine h1.trans (thnK fun _ => ?_)
  have h2 := lerr (xs := ro) (roadE pl.length) (L := fun n i => F60.l10 N n pl ro 0 (i : Int) k fun _ _ _ _ _ => k 0) (k0 := k)
    (k1 := k 0) (fun n => by
      simp only [F60.l10, res]; rw [if_neg (by omega)]) (fun i x hx n => by
      have hi := idx hx
      simp only [F60.l10, res, Int.toNat_natCast, hx, ge_some, w_succ (show i < 4000000000 by omega), span2]
      rw [if_pos (by omega), if_pos (by omega)]
      unfold roadE
      exact ifE (by decide) fun _ => ifE (by decide) fun _ => ifE (by decide) fun _ => ifE (by decide) fun _ => ifE (by decide) fun _ => ifE (by decide) fun _ => ifE (by decide) fun _ => ifE (by decide) fun _ => ifE (by decide) fun _ =>
        ifE' (by decide) fun _ => ifE' (by decide) fun _ => out0) N 0 (by omega) (by omega)
  refine h2.trans ?_
  rw [List.drop_zero]; split
  · rw [‹ferr _ _ _ = 0›]
  · rfl
include hN in
theorem fan_Check (r : Int) (b1 b2 : Bool) (l : List Sp) (k : Int → Option β) : F56.C N r b1 b2 l k = k (fanE r l) := by
  rw [F56.C_eq]; unfold F56.K fanE
  simp only [res]
  refine ifK fun c0 => ifK fun c1 => ifK fun c2 => ?_
  have h1 := lerr (xs := l) (ptE l) (L := fun n i => F56.l6 N n r b1 b2 l 0 l (l.length : Int) (i : Int) k (fun _ _ _ _ _ _ _ _ _ => k 0)) (k0 := k) (k1 := k 0) (fun n => by
      simp only [F56.l6, res]; rw [if_neg (by omega)]) (fun i x hx n => by
      have hi := idx hx
      simp only [F56.l6, res, Int.toNat_natCast, hx, ge_some, w_succ (show i < 4000000000 by omega)]
      rw [if_pos (by omega), if_pos (by omega)]
      unfold ptE
      refine ifE (by decide) fun _ => ifE (by decide) fun _ => ifE (by decide) fun _ => ifE (by decide) fun _ => ?_
      refine ifP0 fun c => ?_
      simp only [w_pred (show 0 < i by omega) (show i < 4000000000 by omega), Int.toNat_natCast, ptAt_get (show i - 1 < l.length by omega), ge_some]
      rw [if_pos (by omega)]
      refine ifE (by decide) fun _ => ?_
      rw [if_pos (by omega)]
      exact ifE (by decide) fun _ => out0) N 0 (by omega) (by omega)
  refine h1.trans ?_
  rw [List.drop_zero]; split
  · rw [‹ferr _ _ _ = 0›]
  · rfl
include hN in
theorem ref07_Check (r : Int) (b1 b2 : Bool) (l : List Sp) (k : Int → Option β) : F61.C N r b1 b2 l k = k (fanE r l) := by
  rw [F61.C_eq]; unfold F61.K fanE
  simp only [res]
  refine ifK fun c0 => ifK fun c1 => ifK fun c2 => ?_
  have h1 := lerr (xs := l) (ptE l) (L := fun n i => F61.l6 N n r b1 b2 l 0 (i : Int) k (fun _ _ _ _ _ _ _ => k 0)) (k0 := k) (k1 := k 0) (fun n => by
      simp only [F61.l6, res]; rw [if_neg (by omega)]) (fun i x hx n => by
      have hi := idx hx
      simp only [F61.l6, res, Int.toNat_natCast, hx, ge_some, w_succ (show i < 4000000000 by omega)]
      rw [if_pos (by omega), if_pos (by omega)]
      unfold ptE
      refine ifE (by decide) fun _ => ifE (by decide) fun _ => ifE (by decide) fun _ => ifE (by decide) fun _ => ?_
      refine ifP0 fun c => ?_
      simp only [w_pred (show 0 < i by omega) (show i < 4000000000 by omega), Int.toNat_natCast, ptAt_get (show i - 1 < l.length by omega), ge_some]
      rw [if_pos (by omega)]
      refine ifE (by decide) fun _ => ?_
      rw [if_pos (by omega)]
      exact ifE (by decide) fun _ => out0) N 0 (by omega) (by omega)
  refine h1.trans ?_
  rw [List.drop_zero]; split
  · rw [‹ferr _ _ _ = 0›]
  · rfl
include hN in
theorem ref08_Check (l : List Do) (k : Int → Option β) : F62.C N l k = k (doorsE l) := by
  rw [F62.C_eq]; unfold F62.K doorsE
  simp only [res]
  refine ifK fun c0 => ?_
  have h1 := lerr (xs := l) (doorE l) (L := fun n i => F62.l4 N n l 0 (i : Int) k (fun _ _ _ _ => k 0)) (k0 := k) (k1 := k 0) (fun n => by
      simp only [F62.l4, res]; rw [if_neg (by omega)]) (fun i x hx n => by
      have hi := idx hx
      simp only [F62.l4, res, Int.toNat_natCast, hx, ge_some, w_succ (show i < 4000000000 by omega)]
      rw [if_pos (by omega), if_pos (by omega)]
      unfold doorE
      refine ifE (by decide) fun _ => ifE (by decide) fun _ => ifE (by decide) fun _ => ?_
      refine (lerr (xs := x.2.2) restE (L := fun n j => F62.l12 N n l 0 (i : Int) x.1 x.2.1 x.2.2 (j : Int) k _) (k0 := k) (fun n => by
        simp only [F62.l12, res]; rw [if_neg (by omega)]) (fun j y hy n => by
        have hj := idx hy
        simp only [F62.l12, res, Int.toNat_natCast, hy, ge_some, w_succ (show j < 4000000000 by omega)]
        rw [if_pos (by omega), if_pos (by omega)]
        unfold restE
        exact ifE (by decide) fun _ => (by rw [if_pos (by omega)]; exact ifE (by decide) fun _ => out0)) N 0 (by omega) (by omega)).trans (thnE fun _ => ?_)
      rw [fall_head, ← ferr_shift]
      refine (lerr (xs := x.2.2.drop 1) (fun j => fallE x.2.2 (j + 1)) (L := fun n j => F62.l17 N n l 0 (i : Int) x.1 x.2.1 x.2.2 ((j + 1 : Nat) : Int) k _) (k0 := k) (fun n => by
        simp only [F62.l17, res, List.length_drop]; rw [if_neg (by omega)]) (fun j y hy n => by
        have hj := idx hy
        simp only [List.length_drop] at hj
        simp only [List.getElem?_drop] at hy
        rw [Nat.add_comm 1 j] at hy
        simp only [F62.l17, res, Int.toNat_natCast, hy, ge_some, w_succ (show j + 1 < 4000000000 by omega), w_pred (show 0 < j + 1 by omega) (show j + 1 < 4000000000 by omega)]
        rw [if_pos (by omega), if_pos (by omega), if_pos (by omega), Nat.add_sub_cancel, getD_get (d := 0) (show j < x.2.2.length by omega)]
        simp only [fallE, Nat.add_one_ne_zero, ↓reduceIte, Nat.add_sub_cancel, ge_some]
        exact ifE (by decide) fun _ => out0) N 0 (by omega) (by simp only [List.length_drop]; omega)).trans (thnE fun _ => ?_)
      unfold otherE
      rw [w_succ (show i < 4000000000 by omega)]
      refine ifN0 fun _ => ifE (by decide) fun _ => ifE (by decide) fun _ => ifE (by decide) fun _ => ?_
      rw [if_pos (by omega), getD_get (d := (0, 0, [])) (show x.2.1.toNat < l.length by omega), ge_some]
      by_cases c : (l.getD x.2.1.toNat (0, 0, [])).2.1 = (i : Int)
      · simp only [c, ↓reduceIte]
      · simp only [c, ↓reduceIte, Int.reduceEq]) N 0 (by omega) (by omega)
  refine h1.trans ?_
  rw [List.drop_zero]; split
  · rw [‹ferr _ _ _ = 0›]
  · rfl
include hN in
theorem door_Check (l : List Do) (k : Int → Option β) : F57.C N l k = k (doorsE l) := by
  rw [F57.C_eq]; unfold F57.K doorsE
  simp only [res]
  refine ifK fun c0 => ?_
  have h1 := lerr (xs := l) (doorE l) (L := fun n i => F57.l4 N n l 0 l (l.length : Int) (i : Int) k (fun _ _ _ _ _ _ => k 0)) (k0 := k) (k1 := k 0) (fun n => by
      simp only [F57.l4, res]; rw [if_neg (by omega)]) (fun i x hx n => by
      have hi := idx hx
      simp only [F57.l4, res, Int.toNat_natCast, hx, ge_some, w_succ (show i < 4000000000 by omega)]
      rw [if_pos (by omega), if_pos (by omega)]
      unfold doorE
      refine ifE (by decide) fun _ => ifE (by decide) fun _ => ifE (by decide) fun _ => ?_
      refine (lerrB (xs := x.2.2) restE (fallE x.2.2) (L := fun n j b => F57.l12 N n l 0 (i : Int) x.1 x.2.1 x.2.2 b l (l.length : Int) (i : Int) x.2.2 (x.2.2.length : Int) (j : Int) k _) (k0 := k) (fun n b => by
        simp only [F57.l12, res]; rw [if_neg (by omega)]) (fun j y hy n b => by
        have hj := idx hy
        simp only [F57.l12, res, Int.toNat_natCast, hy, ge_some, w_succ (show j < 4000000000 by omega)]
        rw [if_pos (by omega), if_pos (by omega)]
        unfold restE
        refine ifE (by decide) fun _ => ifE (by decide) fun _ => ?_
        rw [if_pos rfl]
        cases b with
        | false => simp only [res, Bool.false_and]
        | true =>
          simp only [res, Bool.true_and, fallE]
          by_cases c : j = 0
          · subst c; simp
          · rw [if_neg (by omega), w_pred (by omega) (by omega), if_pos (by omega), Int.toNat_natCast, getD_get (d := 0) (show j - 1 < x.2.2.length by omega), ge_some]
            congr 1
            simp only [if_neg c]
            by_cases q : y < x.2.2.getD (j - 1) 0
            · rw [if_neg (by omega)]; exact decide_eq_decide.2 ⟨fun _ => rfl, fun _ => q⟩
            · rw [if_pos (by omega)]; exact decide_eq_decide.2 ⟨fun h => absurd h q, fun h => absurd h (by decide)⟩) N 0 true (by omega) (by omega)).trans (thnE fun _ => ?_)
      simp only [res, List.drop_zero, Bool.true_and]
      refine thnV (fall_val x.2.2 x.2.2 0) fun _ => ?_
      unfold otherE
      rw [w_succ (show i < 4000000000 by omega)]
      refine ifN0 fun _ => ifE (by decide) fun _ => ifE (by decide) fun _ => ifE (by decide) fun _ => ?_
      rw [if_pos (by omega), getD_get (d := (0, 0, [])) (show x.2.1.toNat < l.length by omega), ge_some]
      by_cases c : (l.getD x.2.1.toNat (0, 0, [])).2.1 = (i : Int)
      · simp only [c, ↓reduceIte]
      · simp only [c, ↓reduceIte, Int.reduceEq]) N 0 (by omega) (by omega)
  refine h1.trans ?_
  rw [List.drop_zero]; split
  · rw [‹ferr _ _ _ = 0›]
  · rfl
end Go.Vi.B
/- minecontrol/branch.Check -/
namespace Go.Vi.B
open Go.Proofs
set_option linter.unusedVariables false
set_option maxRecDepth 100000
abbrev F30.i : Sh := [(0, .agg [.lst .frz 62 kd1, .lst .frz 71 kd8, .lst .frz 100 kd11, .lst .frz 55 kd13])]
abbrev F30.o0 : Sh := [(0, .one .i)]
noncomputable def F30.l7 {β : Type} (N : Nat) : Nat → (List Pl) → (List Ro) → (List Fa) → (List Do) → Int → (List Fa) → Int → Int → (Int → Option β) → (List Pl → List Ro → List Fa → List Do → Int → List Fa → Int → Int → Bool → Option β) → Option β
 | 0, _, _, _, _, _, _, _, _, _, _ => none
 | n + 1, v0, v1, v2, v3, v4, v5, v6, v7, k0, k1 =>
  bl (v7 < v6) (k1 v0 v1 v2 v3 v4 v5 v6 v7 (decide (v7 < v6))) <|
  ck (0 ≤ v7) <|
  ge (v5[v7.toNat]?) fun x1 =>
  F56.C N x1.1 x1.2.1 x1.2.2.1 x1.2.2.2 fun r2 =>
  br (r2 != 0) (k0 r2) <|
  br (x1.1 ≥ (v1.length : Int)) (k0 4) <|
  F30.l7 N n v0 v1 v2 v3 v4 v5 v6 (w (v7 + 1)) k0 k1
noncomputable def F30.l19 {β : Type} (N : Nat) : Nat → (List Pl) → (List Ro) → (List Fa) → (List Do) → Int → (List Do) → Int → Int → (Int → Option β) → (List Pl → List Ro → List Fa → List Do → Int → List Do → Int → Int → Bool → Option β) → Option β
 | 0, _, _, _, _, _, _, _, _, _, _ => none
 | n + 1, v0, v1, v2, v3, v4, v5, v6, v7, k0, k1 =>
  bl (v7 < v6) (k1 v0 v1 v2 v3 v4 v5 v6 v7 (decide (v7 < v6))) <|
  ck (0 ≤ v7) <|
  ge (v5[v7.toNat]?) fun x1 =>
  br (x1.1 ≥ (v1.length : Int)) (k0 4) <|
  F30.l19 N n v0 v1 v2 v3 v4 v5 v6 (w (v7 + 1)) k0 k1
noncomputable def F30.K {β : Type} (N : Nat) (a0 : List Pl) (a1 : List Ro) (a2 : List Fa) (a3 : List Do) (k0 : Int → Option β) : Option β :=
 F55.C N a0 a1 fun r1 =>
 br (r1 != 0) (k0 r1) <|
 br ((a2.length : Int) > 8) (k0 2) <|
 F30.l7 N N a0 a1 a2 a3 0 a2 (a2.length : Int) 0 (fun z3 => k0 z3) fun z4 z5 z6 z7 z8 _ _ _ _ =>
 F57.C N z7 fun r13 =>
 br (r13 != 0) (k0 r13) <|
 F30.l19 N N z4 z5 z6 z7 z8 z7 (z7.length : Int) 0 (fun z14 => k0 z14) fun _ _ _ _ _ _ _ _ _ =>
 k0 0
noncomputable def F30.fx : Fx := ⟨Try.prog, [], [], [(0,[1,2]),(1,[1,2,3]),(2,[1,2,3,14]),(3,[2]),(4,[1,2,19]),(5,[2]),(6,[1,2,21,22,23]),(7,[1,2,21,22,23,24]),(8,[1,2,5,21,22,23]),(9,[1,2,5,6,21,22,23]),(10,[1,2,5,6,21,22,23,30]),(11,[2]),(12,[1,2,21,22,23,38]),(13,[2]),(14,[1,2,21,22,23]),(15,[1,2,7]),(16,[1,2,7,44]),(17,[2]),(18,[1,2,47,48,49]),(19,[1,2,47,48,49,50]),(20,[1,2,9,47,48,49]),(21,[1,2,47,48,49,59]),(22,[2]),(23,[1,2,47,48,49]),(24,[2])], 61, []⟩
noncomputable def F30.cs (N : Nat) : List (Ctr Try.prog) := [F55.X N, F56.X N, F57.X N]
abbrev F30.s7 : Sh := [(2, .one (.addr 1 0)), (3, .slot false [.lst .frz 62 kd1, .lst .frz 71 kd8, .lst .frz 100 kd11, .lst .frz 55 kd13]), (4, .one .i), (42, .one (.lst .frz 100 kd11)), (44, .one .i), (46, .one .i)]
abbrev F30.e7_0 : Sh := [(4, .one .i)]
abbrev F30.e7_1 : Sh := [(2, .one (.addr 1 0)), (3, .slot false [.lst .frz 62 kd1, .lst .frz 71 kd8, .lst .frz 100 kd11, .lst .frz 55 kd13]), (4, .one .i), (42, .one (.lst .frz 100 kd11)), (44, .one .i), (46, .one .i), (48, .one .bool)]
noncomputable def F30.X7 (N : Nat) : LpC Try.prog F30.fx := mkL (F30.cs N) [] ((loopsOf (bodyOf Try.f30)).getD 0 .skip) 7 [1,2,21,22,23] (by kernel_rfl) (by kernel_rfl) (by kernel_rfl) F30.s7 (fun n x k => F30.l7 N n x.1 x.2.1 x.2.2.1 x.2.2.2.1 x.2.2.2.2.1 x.2.2.2.2.2.1 x.2.2.2.2.2.2.1 x.2.2.2.2.2.2.2.1 (fun r0 => k (.ret) (Sh.mk F30.e7_0 (r0, ()))) (fun r0 r1 r2 r3 r4 r5 r6 r7 r8 => k (.exit 0) (Sh.mk F30.e7_1 (r0, r1, r2, r3, r4, r5, r6, r7, r8, ())))) (fun _ _ => rfl) (fun _ _ _ => by kernel_rfl) N
abbrev F30.s19 : Sh := [(2, .one (.addr 1 0)), (3, .slot false [.lst .frz 62 kd1, .lst .frz 71 kd8, .lst .frz 100 kd11, .lst .frz 55 kd13]), (4, .one .i), (94, .one (.lst .frz 55 kd13)), (96, .one .i), (98, .one .i)]
abbrev F30.e19_0 : Sh := [(4, .one .i)]
abbrev F30.e19_1 : Sh := [(2, .one (.addr 1 0)), (3, .slot false [.lst .frz 62 kd1, .lst .frz 71 kd8, .lst .frz 100 kd11, .lst .frz 55 kd13]), (4, .one .i), (94, .one (.lst .frz 55 kd13)), (96, .one .i), (98, .one .i), (100, .one .bool)]
noncomputable def F30.X19 (N : Nat) : LpC Try.prog F30.fx := mkL (F30.cs N) [] ((loopsOf (bodyOf Try.f30)).getD 1 .skip) 19 [1,2,47,48,49] (by kernel_rfl) (by kernel_rfl) (by kernel_rfl) F30.s19 (fun n x k => F30.l19 N n x.1 x.2.1 x.2.2.1 x.2.2.2.1 x.2.2.2.2.1 x.2.2.2.2.2.1 x.2.2.2.2.2.2.1 x.2.2.2.2.2.2.2.1 (fun r0 => k (.ret) (Sh.mk F30.e19_0 (r0, ()))) (fun r0 r1 r2 r3 r4 r5 r6 r7 r8 => k (.exit 2) (Sh.mk F30.e19_1 (r0, r1, r2, r3, r4, r5, r6, r7, r8, ())))) (fun _ _ => rfl) (fun _ _ _ => by kernel_rfl) N
noncomputable def F30.C {β : Type} (N : Nat) := (Sealed fun β => @F30.K β).1 β N
theorem F30.C_eq {β : Type} (N : Nat) : @F30.C β N = @F30.K β N := congrFun (congrFun (Sealed fun β => @F30.K β).2 β) N
noncomputable def F30.X (N : Nat) : Ctr Try.prog := mkF 30 Try.f30 F30.fx (F30.cs N) [F30.X7 N, F30.X19 N] F30.i (fun x k => F30.C N x.1 x.2.1 x.2.2.1 x.2.2.2.1 (fun r0 => k (Sh.mk F30.o0 (r0, ())))) (by intros; rw [F30.C_eq]; kernel_rfl) (by kernel_rfl) (by kernel_rfl) (by kernel_rfl) (by kernel_rfl) rfl (by kernel_rfl) rfl (by kernel_rfl) (by kernel_rfl) (by kernel_rfl) (.dead _ 30) rfl
end Go.Vi.B
/- minecontrol/branch.Right -/
namespace Go.Vi.B
open Go.Proofs
set_option linter.unusedVariables false
set_option maxRecDepth 100000
abbrev F64.i : Sh := [(0, .agg [.lst .frz 62 kd1, .lst .frz 71 kd8, .lst .frz 100 kd11, .lst .frz 55 kd13]), (2, .agg [.lst .frz 3 .i, .lst .frz 3 .i])]
abbrev F64.o0 : Sh := [(0, .one .bool)]
noncomputable def F64.K {β : Type} (N : Nat) (a0 : List Pl) (a1 : List Ro) (a2 : List Fa) (a3 : List Do) (a4 a5 : List Int) (k0 : Bool → Option β) : Option β :=
 F30.C N a0 a1 a2 a3 fun r1 =>
 bl (r1 = 0) (k0 false) <|
 F31.C N a0 a1 a2 a3 a4 a5 fun r2 =>
 k0 r2
noncomputable def F64.fx : Fx := ⟨Try.prog, [], [], [(0,[2,3]),(1,[4])], 13, []⟩
noncomputable def F64.cs (N : Nat) : List (Ctr Try.prog) := [F30.X N, F31.X N]
noncomputable def F64.C {β : Type} (N : Nat) := (Sealed fun β => @F64.K β).1 β N
theorem F64.C_eq {β : Type} (N : Nat) : @F64.C β N = @F64.K β N := congrFun (congrFun (Sealed fun β => @F64.K β).2 β) N
noncomputable def F64.X (N : Nat) : Ctr Try.prog := mkF 64 Try.f64 F64.fx (F64.cs N) [] F64.i (fun x k => F64.C N x.1 x.2.1 x.2.2.1 x.2.2.2.1 x.2.2.2.2.1 x.2.2.2.2.2.1 (fun r0 => k (Sh.mk F64.o0 (r0, ())))) (by intros; rw [F64.C_eq]; kernel_rfl) (by kernel_rfl) (by kernel_rfl) (by kernel_rfl) (by kernel_rfl) rfl (by kernel_rfl) rfl (by kernel_rfl) (by kernel_rfl) (by kernel_rfl) (.dead _ 64) rfl
end Go.Vi.B
/- What the checks of airs and settings compute. -/
namespace Go.Vi.B
open Go.Proofs Go.Vi.A
set_option linter.unusedVariables false
set_option linter.unusedSimpArgs false
variable {β : Type} {N : Nat} (hN : 1000 ≤ N)
include hN in
theorem branch_Check (pl : List Pl) (ro : List Ro) (fa : List Fa) (dr : List Do) (k : Int → Option β) : F30.C N pl ro fa dr k = k (airE pl ro fa dr) := by
  rw [F30.C_eq]; unfold F30.K airE
  simp only [res, plan_Check hN]
  refine thnK fun c0 => ifK fun c1 => ?_
  refine (lerr (xs := fa) (fanInE ro.length) (L := fun n i => F30.l7 N n pl ro fa dr 0 fa (fa.length : Int) (i : Int) k _) (k0 := k) (fun n => by
      simp only [F30.l7, res]; rw [if_neg (by omega)]) (fun i x hx n => by
      have hi := idx hx
      simp only [F30.l7, res, Int.toNat_natCast, hx, ge_some, w_succ (show i < 4000000000 by omega), fan_Check hN]
      rw [if_pos (by omega), if_pos (by omega)]
      unfold fanInE
      exact thnE fun _ => ifE (by decide) fun _ => out0) N 0 (by omega) (by omega)).trans (thnK fun _ => ?_)
  simp only [door_Check hN]
  refine thnK fun hd => ?_
  have hl : (dr.length : Int) ≤ 16 := by
    unfold doorsE at hd; split at hd
    · cases hd
    · omega
  refine (lerr (xs := dr) (doorInE ro.length) (L := fun n i => F30.l19 N n pl ro fa dr 0 dr (dr.length : Int) (i : Int) k _) (k0 := k) (fun n => by
      simp only [F30.l19, res]; rw [if_neg (by omega)]) (fun i x hx n => by
      have hi := idx hx
      simp only [F30.l19, res, Int.toNat_natCast, hx, ge_some, w_succ (show i < 4000000000 by omega)]
      rw [if_pos (by omega), if_pos (by omega)]
      unfold doorInE
      exact ifE (by decide) fun _ => out0) N 0 (by omega) (by omega)).trans endK
include hN in
theorem ref09_Check (pl : List Pl) (ro : List Ro) (fa : List Fa) (dr : List Do) (k : Int → Option β) : F36.C N pl ro fa dr k = k (airE pl ro fa dr) := by
  rw [F36.C_eq]; unfold F36.K airE
  simp only [res, ref01_Check hN]
  refine thnK fun c0 => ifK fun c1 => ?_
  refine (lerr (xs := fa) (fanInE ro.length) (L := fun n i => F36.l7 N n pl ro fa dr 0 (i : Int) k _) (k0 := k) (fun n => by
      simp only [F36.l7, res]; rw [if_neg (by omega)]) (fun i x hx n => by
      have hi := idx hx
      simp only [F36.l7, res, Int.toNat_natCast, hx, ge_some, w_succ (show i < 4000000000 by omega), ref07_Check hN]
      rw [if_pos (by omega), if_pos (by omega)]
      unfold fanInE
      exact thnE fun _ => (by rw [if_pos (by omega)]; exact ifE (by decide) fun _ => out0)) N 0 (by omega) (by omega)).trans (thnK fun _ => ?_)
  simp only [ref08_Check hN]
  refine thnK fun hd => ?_
  have hl : (dr.length : Int) ≤ 16 := by
    unfold doorsE at hd; split at hd
    · cases hd
    · omega
  refine (lerr (xs := dr) (doorInE ro.length) (L := fun n i => F36.l18 N n pl ro fa dr 0 (i : Int) k _) (k0 := k) (fun n => by
      simp only [F36.l18, res]; rw [if_neg (by omega)]) (fun i x hx n => by
      have hi := idx hx
      simp only [F36.l18, res, Int.toNat_natCast, hx, ge_some, w_succ (show i < 4000000000 by omega)]
      rw [if_pos (by omega), if_pos (by omega)]
      unfold doorInE
      exact ifE (by decide) fun _ => out0) N 0 (by omega) (by omega)).trans endK
include hN in
theorem branch_Fitting (pl : List Pl) (ro : List Ro) (fa : List Fa) (dr : List Do) (sf sd : List Int) (h : airE pl ro fa dr = 0) (k : Bool → Option β) : F31.C N pl ro fa dr sf sd k = nz k (fitE fa dr sf sd) := by
  obtain ⟨hf, hd⟩ := airE_len h
  rw [F31.C_eq]; unfold F31.K fitE
  simp only [res, nz1 k]
  refine ifK' fun c0 => ifK' fun c1 => ?_
  refine (lerr (xs := sf) stF (L := fun n i => F31.l4 N n pl ro fa dr sf sd false sf (sf.length : Int) (i : Int) k _) (k0 := nz k) (fun n => by
      simp only [F31.l4, res]; rw [if_neg (by omega)]) (fun i x hx n => by
      have hi := idx hx
      simp only [F31.l4, res, nz1 k, Int.toNat_natCast, hx, ge_some, w_succ (show i < 4000000000 by omega)]
      rw [if_pos (by omega), if_pos (by omega)]
      unfold stF
      exact ifE (by decide) fun _ => ifE (by decide) fun _ => out0) N 0 (by omega) (by omega)).trans (thnK fun _ => ?_)
  refine (lerr (xs := sd) (stD dr) (L := fun n i => F31.l10 N n pl ro fa dr false sd (sd.length : Int) (i : Int) k _) (k0 := nz k) (k1 := nz k 0) (fun n => by
      simp only [F31.l10, res]; rw [if_neg (by omega)]; rfl) (fun i x hx n => by
      have hi := idx hx
      simp only [F31.l10, res, nz1 k, Int.toNat_natCast, hx, ge_some, w_succ (show i < 4000000000 by omega), getD_get (d := (0, 0, [])) (show i < dr.length by omega)]
      rw [if_pos (by omega), if_pos (by omega)]
      unfold stD
      exact ifE (by decide) fun _ => (by rw [if_pos (by omega)]; exact ifE (by decide) fun _ => out0)) N 0 (by omega) (by omega)).trans endK
include hN in
theorem branch_Right (pl : List Pl) (ro : List Ro) (fa : List Fa) (dr : List Do) (sf sd : List Int) (k : Bool → Option β) : F64.C N pl ro fa dr sf sd k = nz k (rightE pl ro fa dr sf sd) := by
  rw [F64.C_eq]; unfold F64.K rightE
  simp only [res, branch_Check hN]
  unfold thn
  by_cases c : airE pl ro fa dr = 0
  · rw [if_pos c, if_pos c]; exact branch_Fitting hN pl ro fa dr sf sd c k
  · rw [if_neg c, if_neg c]; unfold nz; rw [decide_eq_false c]
include hN in
theorem ref09_Right (pl : List Pl) (ro : List Ro) (fa : List Fa) (dr : List Do) (sf sd : List Int) (k : Bool → Option β) : F37.C N pl ro fa dr sf sd k = nz k (rightE pl ro fa dr sf sd) := by
  rw [F37.C_eq]; unfold F37.K rightE
  simp only [res, ref09_Check hN]
  by_cases c : airE pl ro fa dr = 0
  · obtain ⟨hf, hd⟩ := airE_len c
    rw [if_pos c, c]
    simp only [thn, ↓reduceIte, fitE, nz1 k]
    refine ifK' fun c0 => ifK' fun c1 => ?_
    refine (lerr (xs := sf) stF (L := fun n i => F37.l4 N n pl ro fa dr sf sd false (i : Int) k _) (k0 := nz k) (fun n => by
      simp only [F37.l4, res]; rw [if_neg (by omega)]) (fun i x hx n => by
      have hi := idx hx
      simp only [F37.l4, res, nz1 k, Int.toNat_natCast, hx, ge_some, w_succ (show i < 4000000000 by omega)]
      rw [if_pos (by omega), if_pos (by omega)]
      unfold stF
      exact ifE (by decide) fun _ => (by rw [if_pos (by omega)]; exact ifE (by decide) fun _ => out0)) N 0 (by omega) (by omega)).trans (thnK fun _ => ?_)
    refine (lerr (xs := sd) (stD dr) (L := fun n i => F37.l9 N n pl ro fa dr sf sd false (i : Int) k _) (k0 := nz k) (k1 := nz k 0) (fun n => by
      simp only [F37.l9, res]; rw [if_neg (by omega)]; rfl) (fun i x hx n => by
      have hi := idx hx
      simp only [F37.l9, res, nz1 k, Int.toNat_natCast, hx, ge_some, w_succ (show i < 4000000000 by omega), getD_get (d := (0, 0, [])) (show i < dr.length by omega)]
      rw [if_pos (by omega), if_pos (by omega)]
      unfold stD
      exact ifE (by decide) fun _ => (by rw [if_pos (by omega), if_pos (by omega)]; exact ifE (by decide) fun _ => out0)) N 0 (by omega) (by omega)).trans endK
  · rw [if_neg c]; unfold nz thn; rw [if_neg c, decide_eq_false c]
/-- An open road in a right air. -/
def openB (pl : List Pl) (ro : List Ro) (fa : List Fa) (dr : List Do) (sf sd : List Int) (i : Int) : Bool :=
  decide (rightE pl ro fa dr sf sd = 0) && (decide (i ≥ 0) && (decide (i < (ro.length : Int)) && !(ro.getD i.toNat (0, 0, 0, 0, false, true, (0, 0), (0, 0))).2.2.2.2.2.1))
end Go.Vi.B
/- The reference's difference of pressure, and its flows. -/
namespace Go.Vi.B
open Go.Proofs Go.Vi.A
set_option linter.unusedVariables false
set_option linter.unusedSimpArgs false
variable {β : Type} {N : Nat} (hN : 1000 ≤ N)
theorem rOf_bd {pl : List Pl} {ro : List Ro} {fa : List Fa} {dr : List Do} (h : AirOk pl ro fa dr) (sd : List Int) (i : Int) {r : Ro} (hr : r ∈ ro) : 1 ≤ (rOf (dr.zip sd) i r).1 ∧ (rOf (dr.zip sd) i r).1 ≤ (rOf (dr.zip sd) i r).2 ∧ (rOf (dr.zip sd) i r).2 ≤ 4456448 := by
  have a := (h.road r hr).rest
  have b := dsum_bd h sd (dr.zip sd).length i
  rw [List.take_of_length_le (Nat.le_refl _)] at b
  unfold rOf; simp only; omega
include hN in
theorem inner_fans {pl : List Pl} {ro : List Ro} {fa : List Fa} {dr : List Do} {sf sd : List Int} (h : AirOk pl ro fa dr) (hs : SetOk fa dr sf sd) (i : Int) {q : Int} (h0 : -1048577 ≤ q) (h1 : q ≤ 1048577) (a b : Int) (ha : -5000000000000000000 ≤ a ∧ a ≤ 5000000000000000000) (hb : -5000000000000000000 ≤ b ∧ b ≤ 5000000000000000000) (k : Int → Int → Option β) :
    F63.l14 N N i q pl ro fa dr sf sd 0 0 a b 0 (fun _ _ _ _ _ _ _ _ _ _ z54 z55 _ _ => k z54 z55) = k (a - (fsum (fa.zip sf) i q).2) (b - (fsum (fa.zip sf) i q).1) := by
  have hl := h.nfa
  obtain ⟨s, hs', e⟩ := lfor (len := fa.length) (L := fun n j (m : Sp) => F63.l14 N n i q pl ro fa dr sf sd 0 0 m.1 m.2 (j : Int) (fun _ _ _ _ _ _ _ _ _ _ z54 z55 _ _ => k z54 z55)) (k := fun m => k m.1 m.2)
    (fun j m => m = (a - (fsum ((fa.zip sf).take j) i q).2, b - (fsum ((fa.zip sf).take j) i q).1))
    (fun n m hm => by simp only [F63.l14, res]; rw [if_neg (by omega)])
    (fun j m hj hm => by
      obtain ⟨x, hx⟩ := getl hj
      obtain ⟨s, hsj⟩ := getl (show j < sf.length by rw [hs.lf]; exact hj)
      have hg := (h.fan x (List.mem_of_getElem? hx)).1
      have sb := hs.f s (List.mem_of_getElem? hsj)
      have bd := fsum_bd h sf j i q
      have bx := sure_bd hg x.2.1 s q
      refine ⟨_, rfl, fun n => ?_⟩
      subst hm
      simp only [F63.l14, res, Int.toNat_natCast, hx, hsj, ge_some, w_succ (show j < 4000000000 by omega), ref07_State hN hg _ _ _ sb.1 sb.2 (show -9223372036854775807 ≤ q by omega) (show q ≤ 9223372036854775807 by omega)]
      rw [if_pos (by omega), if_pos (by omega), fsum_take (zip_get hx hsj)]
      by_cases c : x.1 = i
      · rw [if_pos c, if_pos (by omega), if_pos (by omega), if_pos c, w_id (by omega) (by omega), w_id (by omega) (by omega)]
        simp only [Int.sub_sub]
      · rw [if_neg c, if_neg c]) 0 (a, b) N (by simp [fsum, bsum, sumS]) (by omega) (by omega)
  refine e.trans ?_
  rw [hs', List.take_of_length_le (by rw [List.length_zip]; omega)]
include hN in
theorem inner_doors {pl : List Pl} {ro : List Ro} {fa : List Fa} {dr : List Do} {sf sd : List Int} (h : AirOk pl ro fa dr) (hs : SetOk fa dr sf sd) (i : Int) {r : Ro} (hR : RoadOk pl.length r) (q : Int)
    (K : Int → Int → List Pl → List Ro → List Fa → List Do → List Int → List Int → Int → Int → Int → Int → Int → Int → Bool → Bool → Int → Int → Int → Int → Int → Int → Int → Bool → Option β) :
    F63.l4 N N i q pl ro fa dr sf sd 0 0 r.1 r.2.1 r.2.2.1 r.2.2.2.1 r.2.2.2.2.1 r.2.2.2.2.2.1 r.2.2.2.2.2.2.1.1 r.2.2.2.2.2.2.1.2 r.2.2.2.2.2.2.2.1 r.2.2.2.2.2.2.2.2 r.2.2.2.2.2.2.1.1 r.2.2.2.2.2.2.1.2 0 K =
    K i q pl ro fa dr sf sd 0 0 r.1 r.2.1 r.2.2.1 r.2.2.2.1 r.2.2.2.2.1 r.2.2.2.2.2.1 r.2.2.2.2.2.2.1.1 r.2.2.2.2.2.2.1.2 r.2.2.2.2.2.2.2.1 r.2.2.2.2.2.2.2.2 (rOf (dr.zip sd) i r).1 (rOf (dr.zip sd) i r).2 (dr.length : Int) false := by
  have hl := h.ndr
  obtain ⟨s, hs', e⟩ := lfor (len := dr.length) (L := fun n j (m : Sp) => F63.l4 N n i q pl ro fa dr sf sd 0 0 r.1 r.2.1 r.2.2.1 r.2.2.2.1 r.2.2.2.2.1 r.2.2.2.2.2.1 r.2.2.2.2.2.2.1.1 r.2.2.2.2.2.2.1.2 r.2.2.2.2.2.2.2.1 r.2.2.2.2.2.2.2.2 m.1 m.2 (j : Int) K)
    (k := fun m => K i q pl ro fa dr sf sd 0 0 r.1 r.2.1 r.2.2.1 r.2.2.2.1 r.2.2.2.2.1 r.2.2.2.2.2.1 r.2.2.2.2.2.2.1.1 r.2.2.2.2.2.2.1.2 r.2.2.2.2.2.2.2.1 r.2.2.2.2.2.2.2.2 m.1 m.2 (dr.length : Int) false)
    (fun j m => m = (r.2.2.2.2.2.2.1.1 + (dsum ((dr.zip sd).take j) i).1, r.2.2.2.2.2.2.1.2 + (dsum ((dr.zip sd).take j) i).2))
    (fun n m hm => by simp only [F63.l4, res, Int.lt_irrefl, if_false, decide_false])
    (fun j m hj hm => by
      obtain ⟨x, hx⟩ := getl hj
      obtain ⟨s, hsj⟩ := getl (show j < sd.length by rw [hs.ld]; exact hj)
      have hd := h.door x (List.mem_of_getElem? hx)
      have bd := dsum_bd h sd j i
      have bx := dRest_bd hd.rng s
      have rr := hR.rest
      have h6 := hd.six
      refine ⟨_, rfl, fun n => ?_⟩
      subst hm
      simp only [F63.l4, res, Int.toNat_natCast, hx, hsj, ge_some, w_succ (show j < 4000000000 by omega), ref08_Rest hN _ _ (show x.2.2.length ≤ 500 by omega)]
      rw [if_pos (by omega), if_pos (by omega), dsum_take (zip_get hx hsj)]
      by_cases c : x.1 = i
      · rw [if_pos c, if_pos (by omega), if_pos (by omega), if_pos c, w_id (by omega) (by omega), w_id (by omega) (by omega)]
        simp only [Int.add_assoc]
      · rw [if_neg c, if_neg c]) 0 (r.2.2.2.2.2.2.1.1, r.2.2.2.2.2.2.1.2) N (by simp [dsum, sumS]) (by omega) (by omega)
  refine e.trans ?_
  rw [List.take_of_length_le (by rw [List.length_zip]; omega)] at hs'
  have hm : s = rOf (dr.zip sd) i r := hs'
  subst hm; rfl
include hN in
theorem ref09_Inner {pl : List Pl} {ro : List Ro} {fa : List Fa} {dr : List Do} {sf sd : List Int} (h : AirOk pl ro fa dr) (hs : SetOk fa dr sf sd) {i : Int} (hi : 0 ≤ i) {r : Ro} (hr : ro[i.toNat]? = some r) {q : Int} (h0 : -1048577 ≤ q) (h1 : q ≤ 1048577) (k : Int → Int → Option β) :
    F63.C N pl ro fa dr sf sd i q k = k (drop (dr.zip sd) (fa.zip sf) i r q).1 (drop (dr.zip sd) (fa.zip sf) i r q).2 := by
  rw [F63.C_eq]; unfold F63.K
  simp only [res, hr, ge_some]
  have hR := h.road r (List.mem_of_getElem? hr)
  rw [if_pos hi, inner_doors hN h hs i hR q]
  obtain ⟨r0, r1, r2⟩ := rOf_bd h sd i (List.mem_of_getElem? hr)
  obtain ⟨l0, l1, l2⟩ := hR.lift
  have b1 := rq_bd h0 h1 (show 0 ≤ (rOf (dr.zip sd) i r).1 by omega) (by omega)
  have b2 := rq_bd h0 h1 (show 0 ≤ (rOf (dr.zip sd) i r).2 by omega) (by omega)
  have s := sq_bd h0 h1
  unfold drop drp
  rw [w_id (x := (rOf (dr.zip sd) i r).1 * q) (by omega) (by omega), w_id (x := (rOf (dr.zip sd) i r).2 * q) (by omega) (by omega), Int.mul_assoc, Int.mul_assoc, w_id (x := (rOf (dr.zip sd) i r).1 * (q * q)) (by omega) (by omega), w_id (x := (rOf (dr.zip sd) i r).2 * (q * q)) (by omega) (by omega)]
  by_cases c : q < 0
  · simp only [if_pos c, Int.zero_sub]
    rw [w_id (x := -((rOf (dr.zip sd) i r).1 * (q * q))) (by omega) (by omega), w_id (x := -((rOf (dr.zip sd) i r).2 * (q * q))) (by omega) (by omega), w_id (x := _ - r.2.2.2.2.2.2.2.2) (by omega) (by omega), w_id (x := _ - r.2.2.2.2.2.2.2.1) (by omega) (by omega)]
    exact inner_fans hN h hs i h0 h1 _ _ (by omega) (by omega) k
  · simp only [if_neg c]
    rw [w_id (x := _ - r.2.2.2.2.2.2.2.2) (by omega) (by omega), w_id (x := _ - r.2.2.2.2.2.2.2.1) (by omega) (by omega)]
    exact inner_fans hN h hs i h0 h1 _ _ (by omega) (by omega) k
/-- An open road of a right air. -/
theorem openB_iff {pl : List Pl} {ro : List Ro} {fa : List Fa} {dr : List Do} {sf sd : List Int} {i : Int} (h : openB pl ro fa dr sf sd i = true) :
    AirOk pl ro fa dr ∧ SetOk fa dr sf sd ∧ 0 ≤ i ∧ ∃ r, ro[i.toNat]? = some r ∧ r.2.2.2.2.2.1 = false := by
  unfold openB at h
  simp only [Bool.and_eq_true, decide_eq_true_eq, Bool.not_eq_true'] at h
  obtain ⟨h1, h2, h3, h4⟩ := h
  unfold rightE at h1
  rw [thn_zero] at h1
  exact ⟨AirOk.of h1.1, SetOk.of h1.2, h2, _, getD_get (show i.toNat < ro.length by omega), h4⟩
/-- What Drop answers. -/
def dropS (pl : List Pl) (ro : List Ro) (fa : List Fa) (dr : List Do) (sf sd : List Int) (i q : Int) : Sp :=
  if openB pl ro fa dr sf sd i = true then if q < -1048577 then (0, 0) else if q > 1048577 then (0, 0) else drop (dr.zip sd) (fa.zip sf) i (ro.getD i.toNat (0, 0, 0, 0, false, true, (0, 0), (0, 0))) q else (0, 0)
def flowS (pl : List Pl) (ro : List Ro) (fa : List Fa) (dr : List Do) (sf sd : List Int) (i p : Int) : Sp :=
  if openB pl ro fa dr sf sd i = true then (fLow (drop (dr.zip sd) (fa.zip sf) i (ro.getD i.toNat (0, 0, 0, 0, false, true, (0, 0), (0, 0)))) p, fHigh (drop (dr.zip sd) (fa.zip sf) i (ro.getD i.toNat (0, 0, 0, 0, false, true, (0, 0), (0, 0)))) p) else (0, 0)
include hN in
theorem ref09_Lowest {pl : List Pl} {ro : List Ro} {fa : List Fa} {dr : List Do} {sf sd : List Int} (h : AirOk pl ro fa dr) (hs : SetOk fa dr sf sd) {i : Int} (hi : 0 ≤ i) {r : Ro} (hr : ro[i.toNat]? = some r) (d : Int) (k : Int → Option β) :
    F45.C N pl ro fa dr sf sd i d k = k (fLow (drop (dr.zip sd) (fa.zip sf) i r) d) := by
  rw [F45.C_eq]; unfold F45.K fLow
  have := lsl (L := fun n lo hi => F45.l2 N n i d pl ro fa dr sf sd 0 lo hi fun _ _ _ _ _ _ _ _ _ z12 _ _ => k z12) (k := k) (a := -1048577) (b := 1048576)
    (fun q => decide ((drop (dr.zip sd) (fa.zip sf) i r q).2 ≤ d)) (fun n lo hi hl => by simp only [F45.l2, res]; rw [if_neg hl]) (fun n lo hi h0 h1 hl => by
      simp only [F45.l2, res]
      rw [if_pos hl, w_id (x := hi - lo) (by omega) (by omega), w_id (x := hi - lo + 1) (by omega) (by omega), Int.tdiv_eq_ediv_of_nonneg (by omega), w_id (x := (hi - lo + 1) / 2) (by omega) (by omega), w_id (x := lo + (hi - lo + 1) / 2) (by omega) (by omega),
        ref09_Inner hN h hs (by assumption) hr (by omega) (by omega), w_id (x := _ - 1) (by omega) (by omega)]
      simp only [decide_eq_true_eq]) (N - 1) (-1048577) 1048576 (by omega) (by omega) (by
      have : (2 : Int) ^ 22 ≤ 2 ^ (N - 1) := by exact_mod_cast Nat.pow_le_pow_right (by omega) (show 22 ≤ N - 1 by omega)
      omega)
  rw [show N - 1 + 1 = N by omega] at this
  refine this.trans ?_
  have e := bsl_more (fun q => decide ((drop (dr.zip sd) (fa.zip sf) i r q).2 ≤ d)) 22 (-1048577) 1048576 (by decide) (N - 1 - 22)
  rw [show 22 + (N - 1 - 22) = N - 1 by omega] at e
  rw [e]
include hN in
theorem ref09_Highest {pl : List Pl} {ro : List Ro} {fa : List Fa} {dr : List Do} {sf sd : List Int} (h : AirOk pl ro fa dr) (hs : SetOk fa dr sf sd) {i : Int} (hi : 0 ≤ i) {r : Ro} (hr : ro[i.toNat]? = some r) (d : Int) (k : Int → Option β) :
    F46.C N pl ro fa dr sf sd i d k = k (fHigh (drop (dr.zip sd) (fa.zip sf) i r) d) := by
  rw [F46.C_eq]; unfold F46.K fHigh
  have := lsh (L := fun n lo hi => F46.l2 N n i d pl ro fa dr sf sd 0 lo hi fun _ _ _ _ _ _ _ _ _ z12 _ _ => k z12) (k := k) (a := -1048576) (b := 1048577)
    (fun q => decide ((drop (dr.zip sd) (fa.zip sf) i r q).1 ≥ d)) (fun n lo hi hl => by simp only [F46.l2, res]; rw [if_neg hl]) (fun n lo hi h0 h1 hl => by
      simp only [F46.l2, res]
      rw [if_pos hl, w_id (x := hi - lo) (by omega) (by omega), Int.tdiv_eq_ediv_of_nonneg (by omega), w_id (x := (hi - lo) / 2) (by omega) (by omega), w_id (x := lo + (hi - lo) / 2) (by omega) (by omega),
        ref09_Inner hN h hs (by assumption) hr (by omega) (by omega), w_id (x := _ + 1) (by omega) (by omega)]
      simp only [decide_eq_true_eq]) (N - 1) (-1048576) 1048577 (by omega) (by omega) (by
      have : (2 : Int) ^ 22 ≤ 2 ^ (N - 1) := by exact_mod_cast Nat.pow_le_pow_right (by omega) (show 22 ≤ N - 1 by omega)
      omega)
  rw [show N - 1 + 1 = N by omega] at this
  refine this.trans ?_
  have e := bsh_more (fun q => decide ((drop (dr.zip sd) (fa.zip sf) i r q).1 ≥ d)) 22 (-1048576) 1048577 (by decide) (N - 1 - 22)
  rw [show 22 + (N - 1 - 22) = N - 1 by omega] at e
  rw [e]
end Go.Vi.B
/- The pipes of a net: what Make makes. -/
namespace Go.Vi.A
/-- A list told by its indexes. -/
def tab {α : Type} (m : Nat) (f : Nat → α) : List α := (List.range m).map f
theorem tab_len {α : Type} (m : Nat) (f : Nat → α) : (tab m f).length = m := by simp [tab]
theorem tab_get {α : Type} {m i : Nat} {f : Nat → α} (h : i < m) : (tab m f)[i]? = some (f i) := by simp [tab, h]
theorem tab_rep {α : Type} (m : Nat) (x : α) : List.replicate m x = tab m fun _ => x := by
  unfold tab; exact List.ext_getElem? fun k => by
    by_cases h : k < m
    · simp [h]
    · simp [h]
theorem tab_set {α : Type} {m i : Nat} {f : Nat → α} (g : Nat → α) {x : α} (h : g i = x) (h' : ∀ k, k < m → k ≠ i → g k = f k) : (tab m f).set i x = tab m g := by
  refine List.ext_getElem? fun k => ?_
  rw [List.getElem?_set]
  by_cases c : i = k
  · subst c
    rw [if_pos rfl, tab_len]
    by_cases d : i < m
    · rw [if_pos d, tab_get d, h]
    · rw [if_neg d, List.getElem?_eq_none (by rw [tab_len]; omega)]
  · rw [if_neg c]
    by_cases d : k < m
    · rw [tab_get d, tab_get d, h' k d (fun e => c e.symm)]
    · rw [List.getElem?_eq_none (by rw [tab_len]; omega), List.getElem?_eq_none (by rw [tab_len]; omega)]
theorem tab_congr {α : Type} {m : Nat} {f g : Nat → α} (h : ∀ k, k < m → f k = g k) : tab m f = tab m g := by
  unfold tab; exact List.map_congr_left fun k hk => h k (List.mem_range.1 hk)
/-- The open roads, with their numbers. -/
def pipesF (dz : DS) (fz : FS) : Nat → List Ro → List Pi
  | _, [] => []
  | i, r :: t => if r.2.2.2.2.2.1 = true then pipesF dz fz (i + 1) t else pOf dz fz i r :: pipesF dz fz (i + 1) t
theorem pipesF_append (dz : DS) (fz : FS) : ∀ (a b : List Ro) (i : Nat), pipesF dz fz i (a ++ b) = pipesF dz fz i a ++ pipesF dz fz (i + a.length) b
  | [], b, i => by simp [pipesF]
  | r :: t, b, i => by
    simp only [List.cons_append, pipesF, pipesF_append dz fz t b (i + 1), List.length_cons, show i + 1 + t.length = i + (t.length + 1) by omega]
    split <;> rfl
theorem pipesF_len (dz : DS) (fz : FS) : ∀ (a : List Ro) (i : Nat), (pipesF dz fz i a).length ≤ a.length
  | [], i => by simp [pipesF]
  | r :: t, i => by
    have := pipesF_len dz fz t (i + 1)
    simp only [pipesF]; split <;> simp only [List.length_cons] <;> omega
/-- Which pipes end at a place. -/
def atF (p : Int) : Nat → List Pi → List Int
  | _, [] => []
  | k, x :: t => if x.1.1 = p ∨ x.1.2.1 = p then (k : Int) :: atF p (k + 1) t else atF p (k + 1) t
theorem atF_append (p : Int) : ∀ (a b : List Pi) (k : Nat), atF p k (a ++ b) = atF p k a ++ atF p (k + a.length) b
  | [], b, k => by simp [atF]
  | x :: t, b, k => by
    simp only [List.cons_append, atF, atF_append p t b (k + 1), List.length_cons, show k + 1 + t.length = k + (t.length + 1) by omega]
    split <;> rfl
theorem atF_len (p : Int) : ∀ (a : List Pi) (k : Nat), (atF p k a).length ≤ a.length
  | [], k => by simp [atF]
  | x :: t, k => by
    have := atF_len p t (k + 1)
    simp only [atF]; split <;> simp only [List.length_cons] <;> omega
theorem blow_take {z : FS} {j : Nat} {x : Fa × Int} (h : z[j]? = some x) (i : Int) : blow (z.take (j + 1)) i = if x.2 = 0 then blow (z.take j) i else if x.1.1 = i then blow (z.take j) i ++ [x] else blow (z.take j) i := by
  unfold blow
  rw [take_snoc h, List.filter_append]
  by_cases c : x.2 = 0
  · simp [c]
  · by_cases d : x.1.1 = i
    · simp [c, d]
    · simp [c, d]
theorem eq?_self : ∀ k : Kd, Kd.eq? k k = some ⟨rfl⟩
  | .int j => by simp [Kd.eq?]
  | .bool => rfl
  | .val => rfl
  | .pair a b => by simp [Kd.eq?, eq?_self a, eq?_self b]
  | .fz e a => by simp [Kd.eq?, eq?_self a]
  | .ow e a => by simp [Kd.eq?, eq?_self a]
theorem ow_put (e : TypeId) (k : Kd) (xs : List k.T) (o : Option (List k.T)) : ofL (.ow e k) (setRange (toL .own (.ow e k) o) 0 [.lst .own e k xs]) = some (some xs) := by
  have h : setRange (toL .own (.ow e k) o) 0 [.lst .own e k xs] = [.lst .own e k xs] := by cases o <;> rfl
  rw [h]
  simp only [ofL, if_true]
  rw [eq?_self]
  rfl
end Go.Vi.A
namespace Go.Vi.B
open Go.Proofs Go.Vi.A
set_option linter.unusedVariables false
set_option linter.unusedSimpArgs false
variable {β : Type} {N : Nat} (hN : 1000 ≤ N)
include hN in
theorem make_doors {pl : List Pl} {ro : List Ro} {fa : List Fa} {dr : List Do} {sf sd : List Int} (h : AirOk pl ro fa dr) (hs : SetOk fa dr sf sd) (fans : List (Option FS)) (K : List Pl → List Ro → List Fa → List Do → List Int → List Int → List Pi → List (Option (List Int)) → List Sp → List (Option FS) → List Do → Int → Int → Bool → Option β) :
    F33.l4 N N pl ro fa dr sf sd [] [] (tab ro.length fun _ => (0, 0)) fans dr (dr.length : Int) 0 K = K pl ro fa dr sf sd [] [] (tab ro.length fun i => dsum (dr.zip sd) i) fans dr (dr.length : Int) (dr.length : Int) false := by
  have hl := h.ndr
  obtain ⟨s, hs', e⟩ := lfor (len := dr.length) (L := fun n j (m : List Sp) => F33.l4 N n pl ro fa dr sf sd [] [] m fans dr (dr.length : Int) (j : Int) K) (k := fun m => K pl ro fa dr sf sd [] [] m fans dr (dr.length : Int) (dr.length : Int) false)
    (fun j m => m = tab ro.length fun i => dsum ((dr.zip sd).take j) i)
    (fun n m hm => by simp only [F33.l4, res, Int.lt_irrefl, if_false, decide_false])
    (fun j m hj hm => by
      obtain ⟨x, hx⟩ := getl hj
      obtain ⟨s, hsj⟩ := getl (show j < sd.length by rw [hs.ld]; exact hj)
      have hd := h.door x (List.mem_of_getElem? hx)
      have bd := dsum_bd h sd j x.1
      have bx := dRest_bd hd.rng s
      have h6 := hd.six
      obtain ⟨q0, q1⟩ := hd.road
      refine ⟨_, rfl, fun n => ?_⟩
      subst hm
      simp only [F33.l4, res, Int.toNat_natCast, hx, hsj, ge_some, w_succ (show j < 4000000000 by omega), door_Rest hN _ _ (show x.2.2.length ≤ 500 by omega)]
      have ex : ((x.1.toNat : Nat) : Int) = x.1 := by omega
      have hi : x.1.toNat < ro.length := by omega
      rw [if_pos (by omega), if_pos (by omega), if_pos (by omega), if_pos q0, tab_get hi]
      simp only [ge_some, ex, if_pos q0, List.getElem?_set_self (show x.1.toNat < (tab ro.length fun i => dsum ((dr.zip sd).take j) i).length by rw [tab_len]; exact hi), List.set_set]
      rw [w_id (by omega) (by omega), w_id (by omega) (by omega)]
      congr 1
      refine tab_set _ ?_ fun k hk hne => ?_
      · rw [dsum_take (zip_get hx hsj), ex, if_pos rfl]
      · rw [dsum_take (zip_get hx hsj), if_neg (by simp only; omega)]) 0 (tab ro.length fun _ => (0, 0)) N (tab_congr fun k hk => by simp [dsum, sumS]) (by omega) (by omega)
  refine e.trans ?_
  rw [hs', List.take_of_length_le (by rw [List.length_zip]; omega)]
include hN in
theorem make_fans {pl : List Pl} {ro : List Ro} {fa : List Fa} {dr : List Do} {sf sd : List Int} (h : AirOk pl ro fa dr) (hs : SetOk fa dr sf sd) (rs : List Sp) (K : List Pl → List Ro → List Fa → List Do → List Int → List Int → List Pi → List (Option (List Int)) → List Sp → List (Option FS) → List Fa → Int → Int → Bool → Option β) :
    F33.l11 N N pl ro fa dr sf sd [] [] rs (tab ro.length fun _ => some []) fa (fa.length : Int) 0 K = K pl ro fa dr sf sd [] [] rs (tab ro.length fun i => some (blow (fa.zip sf) i)) fa (fa.length : Int) (fa.length : Int) false := by
  have hl := h.nfa
  obtain ⟨s, hs', e⟩ := lfor (len := fa.length) (L := fun n j (m : List (Option FS)) => F33.l11 N n pl ro fa dr sf sd [] [] rs m fa (fa.length : Int) (j : Int) K) (k := fun m => K pl ro fa dr sf sd [] [] rs m fa (fa.length : Int) (fa.length : Int) false)
    (fun j m => m = tab ro.length fun i => some (blow ((fa.zip sf).take j) i))
    (fun n m hm => by simp only [F33.l11, res, Int.lt_irrefl, if_false, decide_false])
    (fun j m hj hm => by
      obtain ⟨x, hx⟩ := getl hj
      obtain ⟨s, hsj⟩ := getl (show j < sf.length by rw [hs.lf]; exact hj)
      obtain ⟨hg, q1⟩ := h.fan x (List.mem_of_getElem? hx)
      have q0 := hg.road
      refine ⟨_, rfl, fun n => ?_⟩
      subst hm
      simp only [F33.l11, res, Int.toNat_natCast, hx, hsj, ge_some, w_succ (show j < 4000000000 by omega)]
      have ex : ((x.1.toNat : Nat) : Int) = x.1 := by omega
      have hi : x.1.toNat < ro.length := by omega
      rw [if_pos (by omega), if_pos (by omega), if_pos (by omega)]
      by_cases c : s = 0
      · rw [if_pos c]
        congr 1
        exact tab_congr fun k hk => by rw [blow_take (zip_get hx hsj), if_pos c]
      · rw [if_neg c, if_pos q0, tab_get hi]
        simp only [ge_some, ex, if_pos q0, List.getElem?_set_self (show x.1.toNat < (tab ro.length fun i => some (blow ((fa.zip sf).take j) i)).length by rw [tab_len]; exact hi), List.set_set]
        rw [if_pos (by omega), ow_put, ge_some, if_pos (by
          have : (blow ((fa.zip sf).take j) x.1).length ≤ 8 := Nat.le_trans (List.length_filter_le _ _) (by rw [List.length_take, List.length_zip]; omega)
          omega)]
        congr 1
        refine tab_set _ ?_ fun k hk hne => ?_
        · rw [blow_take (zip_get hx hsj), ex, if_neg c, if_pos rfl]
        · rw [blow_take (zip_get hx hsj), if_neg c, if_neg (by simp only; omega)]) 0 (tab ro.length fun _ => some []) N (tab_congr fun k hk => by simp [blow]) (by omega) (by omega)
  refine e.trans ?_
  rw [hs', List.take_of_length_le (by rw [List.length_zip]; omega)]
/-- The fans that are left when some roads are done. -/
def fansLeft (fz : FS) (ro : List Ro) (j : Nat) (i : Nat) : Option FS := if i < j ∧ (ro.getD i (0, 0, 0, 0, false, true, (0, 0), (0, 0))).2.2.2.2.2.1 = false then none else some (blow fz i)
include hN in
theorem make_roads {pl : List Pl} {ro : List Ro} {fa : List Fa} {dr : List Do} {sf sd : List Int} (h : AirOk pl ro fa dr) (v0 : List Pi) (v1 : List (Option (List Int)))
    (K : List Pi → List (Option (List Int)) → List Sp → List (Option FS) → List Pi → List (Option (List Int)) → List Ro → Int → Int → Bool → Option β) :
    F33.l18 N N v0 v1 (tab ro.length fun i => dsum (dr.zip sd) i) (tab ro.length fun i => some (blow (fa.zip sf) i)) [] (tab pl.length fun _ => some []) ro (ro.length : Int) 0 K =
    K v0 v1 (tab ro.length fun i => dsum (dr.zip sd) i) (tab ro.length (fansLeft (fa.zip sf) ro ro.length)) (pipesF (dr.zip sd) (fa.zip sf) 0 ro) (tab pl.length fun p => some (atF p 0 (pipesF (dr.zip sd) (fa.zip sf) 0 ro))) ro (ro.length : Int) (ro.length : Int) false := by
  have hl := h.nro
  obtain ⟨s, hs', e⟩ := lfor (len := ro.length) (L := fun n j (m : List (Option FS) × List Pi × List (Option (List Int))) => F33.l18 N n v0 v1 (tab ro.length fun i => dsum (dr.zip sd) i) m.1 m.2.1 m.2.2 ro (ro.length : Int) (j : Int) K)
    (k := fun m => K v0 v1 (tab ro.length fun i => dsum (dr.zip sd) i) m.1 m.2.1 m.2.2 ro (ro.length : Int) (ro.length : Int) false)
    (fun j m => m = (tab ro.length (fansLeft (fa.zip sf) ro j), pipesF (dr.zip sd) (fa.zip sf) 0 (ro.take j), tab pl.length fun p => some (atF p 0 (pipesF (dr.zip sd) (fa.zip sf) 0 (ro.take j)))))
    (fun n m hm => by simp only [F33.l18, res, Int.lt_irrefl, if_false, decide_false])
    (fun j m hj hm => by
      obtain ⟨r, hr⟩ := getl hj
      have hR := h.road r (List.mem_of_getElem? hr)
      obtain ⟨f0, f1⟩ := hR.frm
      obtain ⟨t0, t1⟩ := hR.to
      have hne := hR.ne
      have hrr := hR.rest
      have bd := dsum_bd h sd (dr.zip sd).length j
      rw [List.take_of_length_le (Nat.le_refl _)] at bd
      refine ⟨_, rfl, fun n => ?_⟩
      subst hm
      have hp : pipesF (dr.zip sd) (fa.zip sf) 0 (ro.take (j + 1)) = if r.2.2.2.2.2.1 = true then pipesF (dr.zip sd) (fa.zip sf) 0 (ro.take j) else pipesF (dr.zip sd) (fa.zip sf) 0 (ro.take j) ++ [pOf (dr.zip sd) (fa.zip sf) j r] := by
        rw [take_snoc hr, pipesF_append]
        simp only [pipesF, List.length_take, Nat.zero_add, show min j ro.length = j by omega]
        split <;> simp
      simp only [F33.l18, res, Int.toNat_natCast, hr, ge_some, w_succ (show j < 4000000000 by omega)]
      rw [if_pos (by omega), if_pos (by omega), hp]
      cases hc : r.2.2.2.2.2.1 with
      | true =>
        simp only [res, if_true]
        congr 1
        exact tab_congr fun k hk => by
          unfold fansLeft
          by_cases c : k = j
          · subst c; rw [getD_eq hr, hc]; simp
          · have : k < j ↔ k < j + 1 := by omega
            simp only [this]
      | false =>
        simp only [res, Bool.false_eq_true, if_false]
        have ef : ((r.1.toNat : Nat) : Int) = r.1 := by omega
        have et : ((r.2.1.toNat : Nat) : Int) = r.2.1 := by omega
        have hf : r.1.toNat < pl.length := by omega
        have ht : r.2.1.toNat < pl.length := by omega
        have hlen := pipesF_len (dr.zip sd) (fa.zip sf) (ro.take j) 0
        rw [List.length_take] at hlen
        generalize hP : pipesF (dr.zip sd) (fa.zip sf) 0 (ro.take j) = P at *
        have la := fun p => atF_len p P 0
        simp only [f0, t0, if_true, tab_get hf, ge_some, ef, List.getElem?_set_self (show r.1.toNat < (tab pl.length fun p => some (atF p 0 P)).length by rw [tab_len]; exact hf), List.set_set, ow_put]
        rw [if_pos (by have := la r.1; omega)]
        rw [tab_set (fun p => if p = r.1.toNat then some (atF r.1 0 P ++ [(P.length : Int)]) else some (atF p 0 P)) (if_pos rfl) (fun k hk hn => if_neg hn)]
        simp only [tab_get ht, ge_some, List.getElem?_set_self (show r.2.1.toNat < (tab pl.length fun p => if p = r.1.toNat then some (atF r.1 0 P ++ [(P.length : Int)]) else some (atF (p : Int) 0 P)).length by rw [tab_len]; exact ht), List.set_set, if_neg (show ¬ r.2.1.toNat = r.1.toNat by omega), ow_put, et]
        rw [if_pos (by have := la r.2.1; omega), if_pos (by omega)]
        have hfl : fansLeft (fa.zip sf) ro j j = some (blow (fa.zip sf) j) := by unfold fansLeft; rw [if_neg (by omega)]
        simp only [tab_get hj, ge_some, hfl]
        rw [if_pos (by omega), if_pos (by omega)]
        have e1 : (tab ro.length (fansLeft (fa.zip sf) ro j)).set j none = tab ro.length (fansLeft (fa.zip sf) ro (j + 1)) := tab_set _ (by unfold fansLeft; rw [getD_eq hr, if_pos ⟨by omega, hc⟩]) (fun k hk hn => by
          unfold fansLeft
          have : k < j ↔ k < j + 1 := by omega
          simp only [this])
        have e2 : (tab pl.length fun p => if p = r.1.toNat then some (atF r.1 0 P ++ [(P.length : Int)]) else some (atF (p : Int) 0 P)).set r.2.1.toNat (some (atF r.2.1 0 P ++ [(P.length : Int)])) = tab pl.length fun p => some (atF p 0 (P ++ [pOf (dr.zip sd) (fa.zip sf) j r])) := tab_set _ (by
            rw [atF_append]; simp only [atF, pOf, et, or_true, if_true, Nat.zero_add]) (fun k hk hn => by
            rw [atF_append]
            simp only [atF, pOf, Nat.zero_add]
            by_cases c : k = r.1.toNat
            · subst c; rw [if_pos (by omega), if_pos rfl, ef]
            · rw [if_neg (by omega), if_neg c, List.append_nil])
        rw [e1, e2, w_id (by omega) (by omega), w_id (by omega) (by omega), if_pos (by omega)]
        simp only [pOf, rOf, hc]) 0 (tab ro.length fun i => some (blow (fa.zip sf) i), [], tab pl.length fun _ => some []) N (by
        simp only [List.take_zero, pipesF, atF]
        congr 1) (by omega) (by omega)
  refine e.trans ?_
  rw [hs', List.take_of_length_le (Nat.le_refl _)]
include hN in
theorem make_eq {pl : List Pl} {ro : List Ro} {fa : List Fa} {dr : List Do} {sf sd : List Int} (h : AirOk pl ro fa dr) (hs : SetOk fa dr sf sd) (k : List Pi → List (Option (List Int)) → Option β) :
    F33.C N pl ro fa dr sf sd k = k (pipesF (dr.zip sd) (fa.zip sf) 0 ro) (tab pl.length fun p => some (atF p 0 (pipesF (dr.zip sd) (fa.zip sf) 0 ro))) := by
  have h1 := h.nro
  have h2 := h.npl
  rw [F33.C_eq]; unfold F33.K
  simp only [res, Int.toNat_natCast, if_true, show (0 : Int) ≤ (ro.length : Int) by omega, show (ro.length : Int) ≤ 1000000000 by omega, tab_rep]
  rw [make_doors hN h hs, make_fans hN h hs]
  simp only [if_true, show (0 : Int) ≤ (pl.length : Int) by omega, show (pl.length : Int) ≤ 1000000000 by omega]
  rw [make_roads hN h]
end Go.Vi.B
