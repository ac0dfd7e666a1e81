/- The curve of a right fan: what both programs compute. -/
import Derived.Test.YtbiempkdfnfpgaaM1
import Derived.Test.YtbiempkdfnfpgaaPAx7
namespace Go.Proofs.Ytbiempkdfnfpgaa.M
open Go.RowKit Go.Proofs.Ytbiempkdfnfpgaa.PA Go.Proofs.YtbiempkdfnfpgaaW.PrintWords Go.Proofs.YtbiempkdfnfpgaaW.PrintLast Go.Proofs.YtbiempkdfnfpgaaW.PrintMore

/-- The line from one point to the next one. -/
def seg (a b : S42) (q : Int) : Int × Int :=
  (a.f1 - (a.f1 - b.f1) * (q - a.f0) / (b.f0 - a.f0) - (if (a.f1 - b.f1) * (q - a.f0) % (b.f0 - a.f0) > 0 then 1 else 0), a.f1 - (a.f1 - b.f1) * (q - a.f0) / (b.f0 - a.f0))
def cv : List S42 → Int → Int × Int
  | [], _ => (0, 0)
  | [a], _ => (a.f1, a.f1)
  | a :: b :: t, q => if q ≤ a.f0 then (a.f1, a.f1) else if q ≤ b.f0 then seg a b q else cv (b :: t) q

/-- Two points that follow one another. -/
structure Nb (a b : S42) : Prop where
  a0 : -1048576 ≤ a.f0
  b0 : b.f0 ≤ 1048576
  lt : a.f0 < b.f0
  b1 : 0 ≤ b.f1
  ge : b.f1 ≤ a.f1
  a1 : a.f1 ≤ 2199023255552

theorem good_pt {r : Int} {l : List S42} (h : Good r l) {i : Nat} (hi : i < l.length) : -1048576 ≤ (ptAt l i).f0 ∧ (ptAt l i).f0 ≤ 1048576 ∧ 0 ≤ (ptAt l i).f1 ∧ (ptAt l i).f1 ≤ 2199023255552 := by
  have := h.rng i hi; unfold badR at this; omega
theorem good_nb {r : Int} {l : List S42} (h : Good r l) {i : Nat} (hi : i + 1 < l.length) : Nb (ptAt l i) (ptAt l (i + 1)) := by
  have h1 := good_pt h (show i < l.length by omega)
  have h2 := good_pt h hi
  have h3 := h.ord (i + 1) hi
  unfold badO at h3
  simp only [Nat.add_sub_cancel] at h3
  exact ⟨by omega, by omega, by omega, by omega, by omega, by omega⟩

theorem mul_le {a b c d : Int} (h0 : 0 ≤ a) (h1 : a ≤ c) (h2 : 0 ≤ b) (h3 : b ≤ d) : 0 ≤ a * b ∧ a * b ≤ c * d :=
  ⟨Int.mul_nonneg h0 h2, Int.le_trans (Int.mul_le_mul_of_nonneg_right h1 h2) (Int.mul_le_mul_of_nonneg_left h3 (by omega))⟩

theorem mul64 {x y : Int} (h0 : 0 ≤ x) (h1 : x ≤ 2199023255552) (h2 : 0 ≤ y) (h3 : y ≤ 2097152) : bits_Mul64.f x y = some (0, x * y) := by
  have hp := mul_le h0 h1 h2 h3
  have ey : y / 4294967296 = 0 := by omega
  have ey' : y % 4294967296 = y := by omega
  have hx : 0 ≤ x / 4294967296 ∧ x / 4294967296 ≤ 512 := by omega
  have hl : 0 ≤ x % 4294967296 ∧ x % 4294967296 ≤ 4294967295 := by omega
  have p1 := mul_le hx.1 hx.2 h2 h3
  have p2 := mul_le hl.1 hl.2 h2 h3
  have q2 : 0 ≤ (x % 4294967296 * y) / 4294967296 ∧ (x % 4294967296 * y) / 4294967296 ≤ 4194304 := by omega
  unfold bits_Mul64.f
  rw [mask32 x h0 (by omega), mask32 y h2 (by omega), ey, ey']
  rw [u64 (x := x % 4294967296 * y) (by omega) (by omega)]
  rw [u64 (x := x / 4294967296 * y) (by omega) (by omega)]
  rw [u64 (x := x / 4294967296 * y + x % 4294967296 * y / 4294967296) (by omega) (by omega)]
  rw [mask32 _ (by omega) (by omega)]
  simp only [Int.mul_zero]
  rw [u64 (x := 0) (by omega) (by omega), u64 (x := x * y) (by omega) (by omega)]
  generalize hz : x / 4294967296 * y + x % 4294967296 * y / 4294967296 = z
  have hz0 : 0 ≤ z ∧ z < 4294967296 := by omega
  have e1 : z / 4294967296 = 0 := by omega
  have e2 : z % 4294967296 = z := by omega
  rw [e1, e2, Int.add_zero, Int.add_zero, u64 (x := z) (by omega) (by omega), e1, u64 (x := 0) (by omega) (by omega), Int.add_zero, u64 (x := 0) (by omega) (by omega)]

theorem div64 {x y : Int} (h0 : 0 ≤ x) (h1 : x < 18446744073709551616) (hy : 0 < y) : bits_Div64.f 0 x y = some (x / y, x % y) := by
  have hq : 0 ≤ x / y := Int.ediv_nonneg h0 (by omega)
  have hq' : x / y ≤ x := Int.ediv_le_self _ h0
  unfold bits_Div64.f
  rw [if_neg (by omega), if_neg (by omega), if_pos rfl, Int.tdiv_eq_ediv_of_nonneg h0, Int.tmod_eq_emod_of_nonneg h0, u64 hq (by omega)]

theorem seg_bd {a b : S42} (h : Nb a b) {q : Int} (h1 : a.f0 ≤ q) (h2 : q ≤ b.f0) :
    0 ≤ (a.f1 - b.f1) * (q - a.f0) ∧ (a.f1 - b.f1) * (q - a.f0) ≤ 2199023255552 * 2097152 ∧ 0 ≤ (a.f1 - b.f1) * (q - a.f0) / (b.f0 - a.f0) ∧ (a.f1 - b.f1) * (q - a.f0) / (b.f0 - a.f0) ≤ a.f1 - b.f1 := by
  have e1 := h.a0; have e2 := h.b0; have e3 := h.lt; have e4 := h.b1; have e5 := h.ge; have e6 := h.a1
  have hp := mul_le (a := a.f1 - b.f1) (b := q - a.f0) (c := 2199023255552) (d := 2097152) (by omega) (by omega) (by omega) (by omega)
  refine ⟨hp.1, hp.2, Int.ediv_nonneg hp.1 (by omega), ?_⟩
  have hm : (a.f1 - b.f1) * (q - a.f0) ≤ (a.f1 - b.f1) * (b.f0 - a.f0) := Int.mul_le_mul_of_nonneg_left (by omega) (by omega)
  have := Int.ediv_le_ediv (show 0 < b.f0 - a.f0 by omega) hm
  rwa [Int.mul_ediv_cancel _ (by omega)] at this

theorem between_eq {a b : S42} (h : Nb a b) {q : Int} (h1 : a.f0 ≤ q) (h2 : q ≤ b.f0) : fan_between.f a.f0 a.f1 b.f0 b.f1 q = some (seg a b q) := by
  have e1 := h.a0; have e2 := h.b0; have e3 := h.lt; have e4 := h.b1; have e5 := h.ge; have e6 := h.a1
  obtain ⟨p1, p2, p3, p4⟩ := seg_bd h h1 h2
  unfold fan_between.f seg
  rw [w64 (x := a.f1 - b.f1) (by omega) (by omega), w64 (x := q - a.f0) (by omega) (by omega), w64 (x := b.f0 - a.f0) (by omega) (by omega)]
  rw [u64 (x := a.f1 - b.f1) (by omega) (by omega), u64 (x := q - a.f0) (by omega) (by omega), u64 (x := b.f0 - a.f0) (by omega) (by omega)]
  rw [mul64 (by omega) (by omega) (by omega) (by omega)]
  simp only [Option.bind_some]
  rw [div64 p1 (by omega) (by omega)]
  simp only [Option.bind_some]
  generalize (a.f1 - b.f1) * (q - a.f0) / (b.f0 - a.f0) = u at *
  rw [w64 (x := u) (by omega) (by omega), w64 (x := a.f1 - u) (by omega) (by omega)]
  split
  · rw [w64 (by omega) (by omega)]
  · rw [Int.sub_zero]

theorem pt_drop {l : List S42} {i : Nat} (h : i < l.length) : l.drop i = ptAt l i :: l.drop (i + 1) := by
  rw [List.drop_eq_getElem_cons h]; simp [ptAt, List.getD_eq_getElem?_getD, h]

theorem curve_l0 {r : Int} {l : List S42} (hg : Good r l) (b1 b2 : Bool) (r0 q : Int) (x y : Int) (hy : y = (ptAt l (l.length - 1)).f1) : ∀ d i, i + 1 + d = l.length → (ptAt l i).f0 < q →
    Ev (fun k => fan_curve.l0 k q ((i + 1 : Nat) : Int) r0 b1 b2 l x y) (cv (l.drop i) q) := by
  have h8 := hg.le
  intro d
  induction d with
  | zero =>
    intro i h hq
    apply Ev.succ
    simp only [fan_curve.l0, if_neg (show ¬ ((i + 1 : Nat) : Int) < (l.length : Int) by omega)]
    rw [pt_drop (by omega), List.drop_of_length_le (by omega)]
    have e : i = l.length - 1 := by omega
    simp only [cv, hy, e]; exact Ev.now _
  | succ d ih =>
    intro i h hq
    apply Ev.succ
    have e1 : wrap64 (((i + 1 : Nat) : Int) - 1) = (i : Int) := by rw [w64 (by omega) (by omega)]; omega
    have e2 : wrap64 (((i + 1 : Nat) : Int) + 1) = ((i + 1 + 1 : Nat) : Int) := by rw [w64 (by omega) (by omega)]; omega
    have hc : cv (l.drop i) q = if q ≤ (ptAt l (i + 1)).f0 then seg (ptAt l i) (ptAt l (i + 1)) q else cv (l.drop (i + 1)) q := by
      rw [pt_drop (show i < l.length by omega), pt_drop (show i + 1 < l.length by omega)]
      simp only [cv]; rw [if_neg (by omega)]
    rw [hc]
    simp only [fan_curve.l0, if_pos (show ((i + 1 : Nat) : Int) < (l.length : Int) by omega), if_pos (show (0 : Int) ≤ ((i + 1 : Nat) : Int) by omega), e1, e2, rd_ptAt,
      if_pos (show (0 : Int) ≤ (i : Int) by omega), if_pos (show (i : Int) < (l.length : Int) by omega)]
    by_cases c : q ≤ (ptAt l (i + 1)).f0
    · simp only [c, ↓reduceIte]
      rw [between_eq (good_nb hg (by omega)) (by omega) c]
      exact Ev.now _
    · simp only [c, ↓reduceIte]
      exact ih (i + 1) (by omega) (by omega)

theorem fan_curve_ev {r : Int} {l : List S42} (hg : Good r l) (r0 : Int) (b1 b2 : Bool) (q : Int) : Ev (fun k => fan_curve.f k r0 b1 b2 l q) (cv l q) := by
  have h1 := hg.ne; have h8 := hg.le
  have e1 : wrap64 ((l.length : Int) - 1) = ((l.length - 1 : Nat) : Int) := by rw [w64 (by omega) (by omega)]; omega
  have r0_ : rd_T42 l 0 = ptAt l 0 := rfl
  unfold fan_curve.f
  simp only [if_pos (show (0 : Int) < (l.length : Int) by omega), e1, if_pos (show (0 : Int) ≤ ((l.length - 1 : Nat) : Int) by omega), if_pos (show ((l.length - 1 : Nat) : Int) < (l.length : Int) by omega), rd_ptAt, r0_]
  by_cases c : q ≤ (ptAt l 0).f0
  · simp only [c, ↓reduceIte]
    have : cv l q = ((ptAt l 0).f1, (ptAt l 0).f1) := by
      show cv (l.drop 0) q = _
      rw [pt_drop (show 0 < l.length by omega)]
      by_cases h : 1 < l.length
      · rw [pt_drop h]; simp only [cv]; rw [if_pos c]
      · rw [List.drop_of_length_le (by omega)]; rfl
    rw [this]; exact Ev.now _
  · simp only [c, ↓reduceIte]
    exact curve_l0 hg b1 b2 r0 q _ _ rfl (l.length - 1) 0 (by omega) (by omega)

theorem fan_Curve_ev (r : Int) (b1 b2 : Bool) (l : List S42) (q : Int) : Ev (fun k => fan_Curve.f k r b1 b2 l q) (if ck r l = 0 then cv l q else (0, 0)) := by
  unfold fan_Curve.f
  refine Ev.bind (fan_check r b1 b2 l) ?_
  by_cases h : ck r l = 0
  · simp only [h, ↓reduceIte]
    exact Ev.bindK (fan_curve_ev (good_of_ck h) r b1 b2 q) rfl
  · simp only [h, ↓reduceIte]; exact Ev.now _
end Go.Proofs.Ytbiempkdfnfpgaa.M
