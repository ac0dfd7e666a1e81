/- What the two checks of a fan compute, and what a right fan is. -/
import Derived.Test.YtbiempkdfnfpgaaM0
import Derived.Test.YtbiempkdfnfpgaaPAx4
import Derived.Test.YtbiempkdfnfpgaaPAx5
namespace Go.Proofs.Ytbiempkdfnfpgaa.M
open Go.RowKit Go.Proofs.Ytbiempkdfnfpgaa.PA Go.Proofs.YtbiempkdfnfpgaaW.PrintWords Go.Proofs.YtbiempkdfnfpgaaW.PrintLast Go.Proofs.YtbiempkdfnfpgaaW.PrintMore

def ptAt (l : List S42) (i : Nat) : S42 := l.getD i z42
theorem rd_ptAt (l : List S42) (i : Nat) : rd_T42 l (i : Int) = ptAt l i := rfl
def badR (l : List S42) (i : Nat) : Prop := (ptAt l i).f0 < -1048576 ∨ (ptAt l i).f0 > 1048576 ∨ (ptAt l i).f1 < 0 ∨ (ptAt l i).f1 > 2199023255552
instance (l : List S42) (i : Nat) : Decidable (badR l i) := by unfold badR; infer_instance
def badO (l : List S42) (i : Nat) : Prop := 0 < i ∧ ((ptAt l i).f0 ≤ (ptAt l (i - 1)).f0 ∨ (ptAt l i).f1 > (ptAt l (i - 1)).f1)
instance (l : List S42) (i : Nat) : Decidable (badO l i) := by unfold badO; infer_instance
def ckF (l : List S42) : Nat → Nat → Int
  | _, 0 => 0
  | i, d + 1 => if badR l i then 1 else if badO l i then 14 else ckF l (i + 1) d
def ck (r : Int) (l : List S42) : Int := if r < 0 then 4 else if l.length < 1 ∨ l.length > 8 then 2 else ckF l 0 l.length

theorem pred_cast {i : Nat} (h : 0 < i) (h8 : i ≤ 8) : wrap64 ((i : Int) - 1) = ((i - 1 : Nat) : Int) := by rw [w64 (by omega) (by omega)]; omega
theorem succ_cast {i : Nat} (h8 : i ≤ 8) : wrap64 ((i : Int) + 1) = ((i + 1 : Nat) : Int) := by rw [w64 (by omega) (by omega)]; omega

theorem fan_j2 (l : List S42) (r : Int) (b1 b2 : Bool) (d i : Nat) (hid : i + (d + 1) = l.length) (h8 : l.length ≤ 8) (hr : ¬ badR l i)
    (ih : Ev (fun k => fan_Check.l0 k l l.length ((i + 1 : Nat) : Int) r b1 b2 l) (ckF l (i + 1) d)) :
    Ev (fun k => fan_Check.j2 k (i : Int) l l.length i false r b1 b2 l (ptAt l i).f0 (ptAt l i).f1) (ckF l i (d + 1)) := by
  apply Ev.succ
  have e : ckF l i (d + 1) = if badO l i then 14 else ckF l (i + 1) d := by simp only [ckF, if_neg hr]
  rw [e]
  simp only [fan_Check.j2, Bool.false_eq_true, if_false]
  by_cases h0 : 0 < i
  · have h0' : (i : Int) > 0 := by omega
    have hp := pred_cast h0 (by omega)
    simp only [if_pos h0', hp, if_pos (show (0 : Int) ≤ ((i - 1 : Nat) : Int) by omega), if_pos (show ((i - 1 : Nat) : Int) < (l.length : Int) by omega), rd_ptAt]
    by_cases c1 : (ptAt l i).f0 ≤ (ptAt l (i - 1)).f0
    · simp only [if_pos c1, if_pos (show badO l i from ⟨h0, .inl c1⟩)]; exact Ev.now _
    · by_cases c2 : (ptAt l i).f1 > (ptAt l (i - 1)).f1
      · simp only [if_neg c1, if_pos c2, if_pos (show badO l i from ⟨h0, .inr c2⟩)]; exact Ev.now _
      · simp only [if_neg c1, if_neg c2, if_neg (show ¬ badO l i from fun h => h.2.elim c1 c2), succ_cast (show i ≤ 8 by omega)]; exact ih
  · have h0' : ¬ (i : Int) > 0 := by omega
    simp only [if_neg h0', if_neg (show ¬ badO l i from fun h => h0 h.1), succ_cast (show i ≤ 8 by omega)]; exact ih

theorem fan_l0 (l : List S42) (r : Int) (b1 b2 : Bool) (h8 : l.length ≤ 8) : ∀ d i, i + d = l.length → Ev (fun k => fan_Check.l0 k l l.length (i : Int) r b1 b2 l) (ckF l i d) := by
  intro d
  induction d with
  | zero =>
    intro i h
    apply Ev.succ
    simp only [fan_Check.l0, if_neg (show ¬ (i : Int) < (l.length : Int) by omega), ckF]; exact Ev.now _
  | succ d ih =>
    intro i h
    apply Ev.succ
    have hj := fun hr => fan_j2 l r b1 b2 d i h h8 hr (ih (i + 1) (by omega))
    have hb : badR l i → Ev (fun k => fan_Check.j2 k (i : Int) l l.length i true r b1 b2 l (ptAt l i).f0 (ptAt l i).f1) (ckF l i (d + 1)) := by
      intro hb
      apply Ev.succ
      simp only [fan_Check.j2, if_true, ckF, if_pos hb]; exact Ev.now _
    simp only [fan_Check.l0, if_pos (show (i : Int) < (l.length : Int) by omega), if_pos (show (0 : Int) ≤ (i : Int) by omega), rd_ptAt]
    by_cases c1 : (ptAt l i).f0 < -1048576
    · simp only [c1, ↓reduceIte]; exact hb (.inl c1)
    by_cases c2 : (ptAt l i).f0 > 1048576
    · simp only [c1, c2, ↓reduceIte]; exact hb (.inr (.inl c2))
    by_cases c3 : (ptAt l i).f1 < 0
    · simp only [c1, c2, c3, ↓reduceIte]; exact hb (.inr (.inr (.inl c3)))
    by_cases c4 : (ptAt l i).f1 > 2199023255552
    · simp only [c1, c2, c3, c4, decide_true, ↓reduceIte]; exact hb (.inr (.inr (.inr c4)))
    · simp only [c1, c2, c3, c4, decide_false, ↓reduceIte]; exact hj (fun h => h.elim c1 (fun h => h.elim c2 (fun h => h.elim c3 c4)))

theorem fan_check (r : Int) (b1 b2 : Bool) (l : List S42) : Ev (fun k => fan_Check.f k r b1 b2 l) (ck r l) := by
  unfold fan_Check.f ck
  by_cases hr : r < 0
  · simp only [if_pos hr]; exact Ev.now _
  simp only [if_neg hr]
  by_cases h1 : l.length < 1
  · simp only [if_pos (show (l.length : Int) < 1 by omega), if_pos (show l.length < 1 ∨ l.length > 8 from .inl h1)]
    apply Ev.succ; simp only [fan_Check.j0, if_true]; exact Ev.now _
  simp only [if_neg (show ¬ (l.length : Int) < 1 by omega)]
  by_cases h8 : l.length > 8
  · simp only [decide_eq_true (show (l.length : Int) > 8 by omega), if_pos (show l.length < 1 ∨ l.length > 8 from .inr h8)]
    apply Ev.succ; simp only [fan_Check.j0, if_true]; exact Ev.now _
  · simp only [decide_eq_false (show ¬ (l.length : Int) > 8 by omega), if_neg (show ¬ (l.length < 1 ∨ l.length > 8) by omega)]
    apply Ev.succ; simp only [fan_Check.j0, Bool.false_eq_true, if_false]
    exact fan_l0 l r b1 b2 (by omega) l.length 0 (by omega)

theorem ref_j2 (l : List S42) (r : Int) (b1 b2 : Bool) (d i : Nat) (hid : i + (d + 1) = l.length) (h8 : l.length ≤ 8) (hr : ¬ badR l i)
    (ih : Ev (fun k => minecontrolref07_Check.l0 k ((i + 1 : Nat) : Int) r b1 b2 l) (ckF l (i + 1) d)) :
    Ev (fun k => minecontrolref07_Check.j2 k (i : Int) false r b1 b2 l (ptAt l i).f0 (ptAt l i).f1) (ckF l i (d + 1)) := by
  apply Ev.succ
  have e : ckF l i (d + 1) = if badO l i then 14 else ckF l (i + 1) d := by simp only [ckF, if_neg hr]
  rw [e]
  simp only [minecontrolref07_Check.j2, Bool.false_eq_true, if_false]
  by_cases h0 : 0 < i
  · have h0' : (i : Int) > 0 := by omega
    have hp := pred_cast h0 (by omega)
    simp only [if_pos h0', hp, if_pos (show (0 : Int) ≤ ((i - 1 : Nat) : Int) by omega), if_pos (show ((i - 1 : Nat) : Int) < (l.length : Int) by omega), rd_ptAt]
    by_cases c1 : (ptAt l i).f0 ≤ (ptAt l (i - 1)).f0
    · simp only [if_pos c1, if_pos (show badO l i from ⟨h0, .inl c1⟩)]; exact Ev.now _
    · by_cases c2 : (ptAt l i).f1 > (ptAt l (i - 1)).f1
      · simp only [if_neg c1, if_pos c2, if_pos (show badO l i from ⟨h0, .inr c2⟩)]; exact Ev.now _
      · simp only [if_neg c1, if_neg c2, if_neg (show ¬ badO l i from fun h => h.2.elim c1 c2), succ_cast (show i ≤ 8 by omega)]; exact ih
  · have h0' : ¬ (i : Int) > 0 := by omega
    simp only [if_neg h0', if_neg (show ¬ badO l i from fun h => h0 h.1), succ_cast (show i ≤ 8 by omega)]; exact ih

theorem ref_l0 (l : List S42) (r : Int) (b1 b2 : Bool) (h8 : l.length ≤ 8) : ∀ d i, i + d = l.length → Ev (fun k => minecontrolref07_Check.l0 k (i : Int) r b1 b2 l) (ckF l i d) := by
  intro d
  induction d with
  | zero =>
    intro i h
    apply Ev.succ
    simp only [minecontrolref07_Check.l0, if_neg (show ¬ (i : Int) < (l.length : Int) by omega), ckF]; exact Ev.now _
  | succ d ih =>
    intro i h
    apply Ev.succ
    have hj := fun hr => ref_j2 l r b1 b2 d i h h8 hr (ih (i + 1) (by omega))
    have hb : badR l i → Ev (fun k => minecontrolref07_Check.j2 k (i : Int) true r b1 b2 l (ptAt l i).f0 (ptAt l i).f1) (ckF l i (d + 1)) := by
      intro hb
      apply Ev.succ
      simp only [minecontrolref07_Check.j2, if_true, ckF, if_pos hb]; exact Ev.now _
    simp only [minecontrolref07_Check.l0, if_pos (show (i : Int) < (l.length : Int) by omega), if_pos (show (0 : Int) ≤ (i : Int) by omega), rd_ptAt]
    by_cases c1 : (ptAt l i).f0 < -1048576
    · simp only [c1, ↓reduceIte]; exact hb (.inl c1)
    by_cases c2 : (ptAt l i).f0 > 1048576
    · simp only [c1, c2, ↓reduceIte]; exact hb (.inr (.inl c2))
    by_cases c3 : (ptAt l i).f1 < 0
    · simp only [c1, c2, c3, ↓reduceIte]; exact hb (.inr (.inr (.inl c3)))
    by_cases c4 : (ptAt l i).f1 > 2199023255552
    · simp only [c1, c2, c3, c4, decide_true, ↓reduceIte]; exact hb (.inr (.inr (.inr c4)))
    · simp only [c1, c2, c3, c4, decide_false, ↓reduceIte]; exact hj (fun h => h.elim c1 (fun h => h.elim c2 (fun h => h.elim c3 c4)))

theorem ref_check (r : Int) (b1 b2 : Bool) (l : List S42) : Ev (fun k => minecontrolref07_Check.f k r b1 b2 l) (ck r l) := by
  unfold minecontrolref07_Check.f ck
  by_cases hr : r < 0
  · simp only [if_pos hr]; exact Ev.now _
  simp only [if_neg hr]
  by_cases h1 : l.length < 1
  · simp only [if_pos (show (l.length : Int) < 1 by omega), if_pos (show l.length < 1 ∨ l.length > 8 from .inl h1)]
    apply Ev.succ; simp only [minecontrolref07_Check.j0, if_true]; exact Ev.now _
  simp only [if_neg (show ¬ (l.length : Int) < 1 by omega)]
  by_cases h8 : l.length > 8
  · simp only [decide_eq_true (show (l.length : Int) > 8 by omega), if_pos (show l.length < 1 ∨ l.length > 8 from .inr h8)]
    apply Ev.succ; simp only [minecontrolref07_Check.j0, if_true]; exact Ev.now _
  · simp only [decide_eq_false (show ¬ (l.length : Int) > 8 by omega), if_neg (show ¬ (l.length < 1 ∨ l.length > 8) by omega)]
    apply Ev.succ; simp only [minecontrolref07_Check.j0, Bool.false_eq_true, if_false]
    exact ref_l0 l r b1 b2 (by omega) l.length 0 (by omega)

/-- A right fan. -/
structure Good (r : Int) (l : List S42) : Prop where
  road : 0 ≤ r
  ne : 1 ≤ l.length
  le : l.length ≤ 8
  rng : ∀ i, i < l.length → ¬ badR l i
  ord : ∀ i, i < l.length → ¬ badO l i
theorem ckF_zero {l : List S42} : ∀ d i, ckF l i d = 0 → ∀ j, i ≤ j → j < i + d → ¬ badR l j ∧ ¬ badO l j := by
  intro d
  induction d with
  | zero => intro i _ j h1 h2; omega
  | succ d ih =>
    intro i h j h1 h2
    simp only [ckF] at h
    by_cases hb : badR l i
    · rw [if_pos hb] at h; omega
    · rw [if_neg hb] at h
      by_cases ho : badO l i
      · rw [if_pos ho] at h; omega
      · rw [if_neg ho] at h
        by_cases e : j = i
        · subst e; exact ⟨hb, ho⟩
        · exact ih (i + 1) h j (by omega) (by omega)
theorem ckF_good {l : List S42} : ∀ d i, (∀ j, i ≤ j → j < i + d → ¬ badR l j ∧ ¬ badO l j) → ckF l i d = 0 := by
  intro d
  induction d with
  | zero => intro i _; rfl
  | succ d ih =>
    intro i h
    obtain ⟨h1, h2⟩ := h i (by omega) (by omega)
    simp only [ckF, if_neg h1, if_neg h2]
    exact ih (i + 1) (fun j a b => h j (by omega) (by omega))
theorem good_of_ck {r : Int} {l : List S42} (h : ck r l = 0) : Good r l := by
  unfold ck at h
  by_cases hr : r < 0
  · rw [if_pos hr] at h; omega
  rw [if_neg hr] at h
  by_cases hl : l.length < 1 ∨ l.length > 8
  · rw [if_pos hl] at h; omega
  rw [if_neg hl] at h
  have := ckF_zero l.length 0 h
  exact ⟨by omega, by omega, by omega, fun i hi => (this i (by omega) (by omega)).1, fun i hi => (this i (by omega) (by omega)).2⟩
theorem ck_of_good {r : Int} {l : List S42} (h : Good r l) : ck r l = 0 := by
  have h1 := h.road; have h2 := h.ne; have h3 := h.le
  unfold ck
  rw [if_neg (by omega), if_neg (by omega)]
  exact ckF_good _ _ (fun j _ hj => ⟨h.rng j (by omega), h.ord j (by omega)⟩)
end Go.Proofs.Ytbiempkdfnfpgaa.M
