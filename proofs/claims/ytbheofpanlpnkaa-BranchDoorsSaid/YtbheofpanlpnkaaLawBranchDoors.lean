/- It is proved that a door that is opened farther lets no less air through, and an unknown state has all that known ones have, as the law BranchDoors states it; there are no conditions beyond those of the given row. -/
import Derived.Test.YtbheofpanlpnkaaZd
import Derived.Test.YtbheofpanlpnkaaRows
import Derived.WalkKit
import Derived.ProofKit
import Derived.OpenShut
import Derived.ShutString
import Derived.ChangeOld
import Derived.Below
import Derived.SizedLaws
/- Differences of pressure rise with the flow; what searches find. -/
namespace Go.Vi.A
set_option linter.unusedVariables false
theorem sq_mono {a b : Int} (h0 : 0 ≤ a) (h : a < b) : a * a < b * b := by
  have h1 : a * a ≤ a * b := Int.mul_le_mul_of_nonneg_left (by omega) h0
  have h2 : a * b < b * b := Int.mul_lt_mul_of_pos_right h (by omega)
  omega
theorem sq_neg (q : Int) : (-q) * (-q) = q * q := Int.neg_mul_neg q q
/-- Both ends rise strictly. -/
theorem drp_mono {rest lift fs fs' : Sp} {q q' : Int} (h1 : 1 ≤ rest.1) (h2 : rest.1 ≤ rest.2) (hq : q < q') (hf : fs'.1 ≤ fs.1 ∧ fs'.2 ≤ fs.2) : (drp rest lift fs q).1 < (drp rest lift fs' q').1 ∧ (drp rest lift fs q).2 < (drp rest lift fs' q').2 := by
  have s0 : 0 ≤ q * q := by
    by_cases c : 0 ≤ q
    · exact Int.mul_nonneg c c
    · have := Int.mul_nonneg (show 0 ≤ -q by omega) (show 0 ≤ -q by omega); rwa [sq_neg] at this
  have s0' : 0 ≤ q' * q' := by
    by_cases c : 0 ≤ q'
    · exact Int.mul_nonneg c c
    · have := Int.mul_nonneg (show 0 ≤ -q' by omega) (show 0 ≤ -q' by omega); rwa [sq_neg] at this
  have m1 := Int.mul_nonneg (show 0 ≤ rest.1 by omega) s0'
  have m2 := Int.mul_nonneg (show 0 ≤ rest.2 by omega) s0'
  have m3 := Int.mul_nonneg (show 0 ≤ rest.1 by omega) s0
  have m4 := Int.mul_nonneg (show 0 ≤ rest.2 by omega) s0
  unfold drp
  by_cases c : q < 0
  · by_cases c' : q' < 0
    · have := sq_mono (a := -q') (b := -q) (by omega) (by omega)
      rw [sq_neg, sq_neg] at this
      have a1 := Int.mul_lt_mul_of_pos_left this (show 0 < rest.1 by omega)
      have a2 := Int.mul_lt_mul_of_pos_left this (show 0 < rest.2 by omega)
      rw [if_pos c, if_pos c']; simp only; omega
    · have := sq_mono (a := 0) (b := -q) (by omega) (by omega)
      rw [sq_neg, Int.mul_zero] at this
      have a1 := Int.mul_pos (show 0 < rest.1 by omega) this
      have a2 := Int.mul_pos (show 0 < rest.2 by omega) this
      rw [if_pos c, if_neg c']; simp only; omega
  · have := sq_mono (a := q) (b := q') (by omega) hq
    have a1 := Int.mul_lt_mul_of_pos_left this (show 0 < rest.1 by omega)
    have a2 := Int.mul_lt_mul_of_pos_left this (show 0 < rest.2 by omega)
    rw [if_neg c, if_neg (by omega)]; simp only; omega
theorem sumS_anti {α : Type} {f g : α → Sp} : ∀ (l : List α), (∀ x ∈ l, (g x).1 ≤ (f x).1 ∧ (g x).2 ≤ (f x).2) → (sumS (l.map g)).1 ≤ (sumS (l.map f)).1 ∧ (sumS (l.map g)).2 ≤ (sumS (l.map f)).2
  | [], _ => by simp [sumS]
  | x :: r, h => by
    have ih := sumS_anti r (fun y hy => h y (List.mem_cons_of_mem _ hy))
    have hx := h x List.mem_cons_self
    simp only [List.map_cons, sumS]; omega
theorem fsum_anti {fa : List Fa} {sf : List Int} (h : ∀ f ∈ fa, GoodF f.1 f.2.2.2) (i : Int) {q q' : Int} (hq : q ≤ q') : (fsum (fa.zip sf) i q').1 ≤ (fsum (fa.zip sf) i q).1 ∧ (fsum (fa.zip sf) i q').2 ≤ (fsum (fa.zip sf) i q).2 := by
  unfold fsum bsum
  exact sumS_anti _ fun x hx => sure_anti (h _ (List.of_mem_zip (List.mem_filter.1 hx).1).1) _ _ hq
/-- A function both of whose ends rise strictly, and whose ends are in order. -/
structure Ris (f : Int → Sp) : Prop where
  lo : ∀ q q', q < q' → (f q).1 < (f q').1
  hi : ∀ q q', q < q' → (f q).2 < (f q').2
  le : ∀ q, (f q).1 ≤ (f q).2
theorem bsl_spec {g : Int → Bool} : ∀ (n : Nat) (lo hi : Int), lo ≤ hi → hi - lo < 2 ^ n → lo ≤ bsl g n lo hi ∧ bsl g n lo hi ≤ hi ∧ (bsl g n lo hi = lo ∨ g (bsl g n lo hi) = true) ∧ (bsl g n lo hi = hi ∨ g (bsl g n lo hi + 1) = false)
  | 0, lo, hi, h, hn => by
    have : lo = hi := by simp at hn; omega
    subst this
    simp [bsl]
  | n + 1, lo, hi, h, hn => by
    rw [Int.pow_succ] at hn
    simp only [bsl]
    by_cases c : lo < hi
    · rw [if_pos c]
      cases hg : g (lo + (hi - lo + 1) / 2) with
      | true =>
        rw [if_pos rfl]
        obtain ⟨a1, a2, a3, a4⟩ := bsl_spec (g := g) n (lo + (hi - lo + 1) / 2) hi (by omega) (by omega)
        refine ⟨by omega, a2, .inr ?_, a4⟩
        rcases a3 with e | e
        · rw [e, hg]
        · exact e
      | false =>
        rw [if_neg (by decide)]
        obtain ⟨a1, a2, a3, a4⟩ := bsl_spec (g := g) n lo (lo + (hi - lo + 1) / 2 - 1) (by omega) (by omega)
        refine ⟨a1, by omega, a3, ?_⟩
        rcases a4 with e | e
        · right
          rw [e, show lo + (hi - lo + 1) / 2 - 1 + 1 = lo + (hi - lo + 1) / 2 by omega, hg]
        · exact .inr e
    · rw [if_neg c]
      have : lo = hi := by omega
      subst this
      simp
theorem bsh_spec {g : Int → Bool} : ∀ (n : Nat) (lo hi : Int), lo ≤ hi → hi - lo < 2 ^ n → lo ≤ bsh g n lo hi ∧ bsh g n lo hi ≤ hi ∧ (bsh g n lo hi = hi ∨ g (bsh g n lo hi) = true) ∧ (bsh g n lo hi = lo ∨ g (bsh g n lo hi - 1) = false)
  | 0, lo, hi, h, hn => by
    have : lo = hi := by simp at hn; omega
    subst this
    simp [bsh]
  | n + 1, lo, hi, h, hn => by
    rw [Int.pow_succ] at hn
    simp only [bsh]
    by_cases c : lo < hi
    · rw [if_pos c]
      cases hg : g (lo + (hi - lo) / 2) with
      | true =>
        rw [if_pos rfl]
        obtain ⟨a1, a2, a3, a4⟩ := bsh_spec (g := g) n lo (lo + (hi - lo) / 2) (by omega) (by omega)
        refine ⟨a1, by omega, .inr ?_, a4⟩
        rcases a3 with e | e
        · rw [e, hg]
        · exact e
      | false =>
        rw [if_neg (by decide)]
        obtain ⟨a1, a2, a3, a4⟩ := bsh_spec (g := g) n (lo + (hi - lo) / 2 + 1) hi (by omega) (by omega)
        refine ⟨by omega, a2, a3, ?_⟩
        rcases a4 with e | e
        · right
          rw [e, show lo + (hi - lo) / 2 + 1 - 1 = lo + (hi - lo) / 2 by omega, hg]
        · exact .inr e
    · rw [if_neg c]
      have : lo = hi := by omega
      subst this
      simp
theorem fLow_spec (f : Int → Sp) (p : Int) : -1048577 ≤ fLow f p ∧ fLow f p ≤ 1048576 ∧ (fLow f p = -1048577 ∨ (f (fLow f p)).2 ≤ p) ∧ (fLow f p = 1048576 ∨ p < (f (fLow f p + 1)).2) := by
  obtain ⟨a1, a2, a3, a4⟩ := bsl_spec (g := fun q => decide ((f q).2 ≤ p)) 22 (-1048577) 1048576 (by omega) (by decide)
  exact ⟨a1, a2, a3.imp id of_decide_eq_true, a4.imp id fun h => by have := of_decide_eq_false h; unfold fLow; omega⟩
theorem fHigh_spec (f : Int → Sp) (p : Int) : -1048576 ≤ fHigh f p ∧ fHigh f p ≤ 1048577 ∧ (fHigh f p = 1048577 ∨ p ≤ (f (fHigh f p)).1) ∧ (fHigh f p = -1048576 ∨ (f (fHigh f p - 1)).1 < p) := by
  obtain ⟨a1, a2, a3, a4⟩ := bsh_spec (g := fun q => decide ((f q).1 ≥ p)) 22 (-1048576) 1048577 (by omega) (by decide)
  exact ⟨a1, a2, a3.imp id of_decide_eq_true, a4.imp id fun h => by have := of_decide_eq_false h; unfold fHigh; omega⟩
/-- The least flow is at least what a test allows. -/
theorem le_fLow {f : Int → Sp} (hf : Ris f) {p q : Int} (h0 : q ≤ 1048576) (h : (f q).2 ≤ p) : q ≤ fLow f p := by
  obtain ⟨a1, a2, a3, a4⟩ := fLow_spec f p
  by_cases c : q ≤ fLow f p
  · exact c
  · have h4 := a4.resolve_left (by omega)
    by_cases e : fLow f p + 1 = q
    · rw [e] at h4; omega
    · have := hf.hi (fLow f p + 1) q (by omega); omega
theorem fHigh_le {f : Int → Sp} (hf : Ris f) {p q : Int} (h0 : -1048576 ≤ q) (h : p ≤ (f q).1) : fHigh f p ≤ q := by
  obtain ⟨a1, a2, a3, a4⟩ := fHigh_spec f p
  by_cases c : fHigh f p ≤ q
  · exact c
  · have h4 := a4.resolve_left (by omega)
    by_cases e : fHigh f p - 1 = q
    · rw [e] at h4; omega
    · have := hf.lo q (fHigh f p - 1) (by omega); omega
/-- The least flow is at most where a test fails. -/
theorem fLow_le {f : Int → Sp} (hf : Ris f) {p q : Int} (h0 : -1048577 ≤ q) (h : p ≤ (f q).2) : fLow f p ≤ q := by
  obtain ⟨a1, a2, a3, a4⟩ := fLow_spec f p
  by_cases c : fLow f p ≤ q
  · exact c
  · have h3 := a3.resolve_left (by omega)
    have := hf.hi q (fLow f p) (by omega); omega
theorem le_fHigh {f : Int → Sp} (hf : Ris f) {p q : Int} (h0 : q ≤ 1048577) (h : (f q).1 ≤ p) : q ≤ fHigh f p := by
  obtain ⟨a1, a2, a3, a4⟩ := fHigh_spec f p
  by_cases c : q ≤ fHigh f p
  · exact c
  · have h3 := a3.resolve_left (by omega)
    have := hf.lo (fHigh f p) q (by omega); omega
theorem fLow_le_fHigh {f : Int → Sp} (hf : Ris f) (p : Int) : fLow f p ≤ fHigh f p := by
  obtain ⟨a1, a2, a3, a4⟩ := fLow_spec f p
  obtain ⟨b1, b2, b3, b4⟩ := fHigh_spec f p
  rcases a3 with e | e
  · omega
  · exact le_fHigh hf (by omega) (by have := hf.le (fLow f p); omega)
/-- Where both ends lie within others', so do the flows. -/
theorem fLow_mono {f g : Int → Sp} (hg : Ris g) {p p' : Int} (h : ∀ q, -1048577 ≤ q → q ≤ 1048576 → (f q).2 ≤ p → (g q).2 ≤ p') : fLow f p ≤ fLow g p' := by
  obtain ⟨a1, a2, a3, a4⟩ := fLow_spec f p
  rcases a3 with e | e
  · have := (fLow_spec g p').1; omega
  · exact le_fLow hg a2 (h _ a1 a2 e)
theorem fHigh_mono {f g : Int → Sp} (hf : Ris f) {p p' : Int} (h : ∀ q, -1048576 ≤ q → q ≤ 1048577 → p' ≤ (g q).1 → p ≤ (f q).1) : fHigh f p ≤ fHigh g p' := by
  obtain ⟨a1, a2, a3, a4⟩ := fHigh_spec g p'
  rcases a3 with e | e
  · have := (fHigh_spec f p).2.1; omega
  · exact fHigh_le hf a1 (h _ a1 a2 e)
end Go.Vi.A
namespace Go.Vi.B
open Go.Vi.A
theorem drop_ris {pl : List Pl} {ro : List Ro} {fa : List Fa} {dr : List Do} (h : AirOk pl ro fa dr) (sf sd : List Int) (i : Int) {r : Ro} (hr : r ∈ ro) : Ris (drop (dr.zip sd) (fa.zip sf) i r) := by
  obtain ⟨r1, r2, r3⟩ := rOf_bd h sd i hr
  have hl := (h.road r hr).lift
  have hm := fun q q' (hq : q < q') => drp_mono (lift := r.2.2.2.2.2.2.2) r1 r2 hq (fsum_anti (sf := sf) (fun f hf => (h.fan f hf).1) i (show q ≤ q' by omega))
  refine ⟨fun q q' hq => (hm q q' hq).1, fun q q' hq => (hm q q' hq).2, fun q => ?_⟩
  have bf := fsum_bd h sf (fa.zip sf).length i q
  rw [List.take_of_length_le (Nat.le_refl _)] at bf
  have s0 : 0 ≤ q * q := by
    by_cases c : 0 ≤ q
    · exact Int.mul_nonneg c c
    · have := Int.mul_nonneg (show 0 ≤ -q by omega) (show 0 ≤ -q by omega); rwa [sq_neg] at this
  have m := Int.mul_le_mul_of_nonneg_right r2 s0
  unfold drop drp
  split <;> (simp only; omega)
end Go.Vi.B
/- Consequences for what is made: how it opens, and its limits. -/
namespace Go.Vi.A
set_option linter.unusedVariables false
abbrev roZ : Ro := (0, 0, 0, 0, false, true, (0, 0), (0, 0))
theorem open_of {pl : List Pl} {ro : List Ro} {fa : List Fa} {dr : List Do} {sf sd : List Int} (ha : airE pl ro fa dr = 0) (hs : fitE fa dr sf sd = 0) {i : Int} (hi : 0 ≤ i) {r : Ro} (hr : ro[i.toNat]? = some r) : Go.Vi.B.openB pl ro fa dr sf sd i = !r.2.2.2.2.2.1 := by
  have hl := idx hr
  unfold Go.Vi.B.openB
  have e : rightE pl ro fa dr sf sd = 0 := by unfold rightE; rw [thn_zero]; exact ⟨ha, hs⟩
  rw [e, getD_eq hr, decide_eq_true (show i ≥ 0 by omega), decide_eq_true (show i < (ro.length : Int) by omega)]; rfl
theorem drop_of {pl : List Pl} {ro : List Ro} {fa : List Fa} {dr : List Do} {sf sd : List Int} (ha : airE pl ro fa dr = 0) (hs : fitE fa dr sf sd = 0) {i : Int} (hi : 0 ≤ i) {r : Ro} (hr : ro[i.toNat]? = some r) (hc : r.2.2.2.2.2.1 = false) {q : Int} (h0 : -1048577 ≤ q) (h1 : q ≤ 1048577) :
    Go.Vi.B.dropS pl ro fa dr sf sd i q = drop (dr.zip sd) (fa.zip sf) i r q := by
  unfold Go.Vi.B.dropS
  rw [open_of ha hs hi hr, hc, getD_eq hr]
  simp only [Bool.not_false, if_true]
  rw [if_neg (by omega), if_neg (by omega)]
theorem flow_of {pl : List Pl} {ro : List Ro} {fa : List Fa} {dr : List Do} {sf sd : List Int} (ha : airE pl ro fa dr = 0) (hs : fitE fa dr sf sd = 0) {i : Int} (hi : 0 ≤ i) {r : Ro} (hr : ro[i.toNat]? = some r) (hc : r.2.2.2.2.2.1 = false) (p : Int) :
    Go.Vi.B.flowS pl ro fa dr sf sd i p = (fLow (drop (dr.zip sd) (fa.zip sf) i r) p, fHigh (drop (dr.zip sd) (fa.zip sf) i r) p) := by
  unfold Go.Vi.B.flowS
  rw [open_of ha hs hi hr, hc, getD_eq hr]; rfl
theorem closed_of {pl : List Pl} {ro : List Ro} {fa : List Fa} {dr : List Do} {sf sd : List Int} (ha : airE pl ro fa dr = 0) (hs : fitE fa dr sf sd = 0) {i : Int} (hi : 0 ≤ i) {r : Ro} (hr : ro[i.toNat]? = some r) (hc : r.2.2.2.2.2.1 = true) (q : Int) :
    Go.Vi.B.dropS pl ro fa dr sf sd i q = (0, 0) ∧ Go.Vi.B.flowS pl ro fa dr sf sd i q = (0, 0) := by
  unfold Go.Vi.B.dropS Go.Vi.B.flowS
  rw [open_of ha hs hi hr, hc]; exact ⟨rfl, rfl⟩
/-- The parts of a state that fits. -/
structure StOk (pl : List Pl) (ro : List Ro) (dz : DS) (fz : FS) (xp xq : List Int) : Prop where
  lp : xp.length = pl.length
  lq : xq.length = ro.length
  pr : ferr prE 0 xp = 0
  fl : ferr flE 0 xq = 0
  clo : ∀ (j : Nat) r q, ro[j]? = some r → xq[j]? = some q → r.2.2.2.2.2.1 = true → q = 0
  dro : ∀ (j : Nat) r q, ro[j]? = some r → xq[j]? = some q → r.2.2.2.2.2.1 = false → (drop dz fz j r q).1 ≤ xp.getD r.1.toNat 0 - xp.getD r.2.1.toNat 0 ∧ xp.getD r.1.toNat 0 - xp.getD r.2.1.toNat 0 ≤ (drop dz fz j r q).2
  sur : ∀ (j : Nat) p, pl[j]? = some p → p.2 = true → xp.getD j 0 = 0
  net : ∀ (j : Nat) p, pl[j]? = some p → p.2 = false → netF (ro.zip xq) j = 0
theorem StOk.of {pl : List Pl} {ro : List Ro} {dz : DS} {fz : FS} {xp xq : List Int} (h : stE pl ro dz fz xp xq = 0) : StOk pl ro dz fz xp xq := by
  unfold stE at h
  split at h
  · split at h
    · rw [thn_zero, thn_zero, thn_zero, thn_zero] at h
      obtain ⟨h1, h2, h3, h4, h5⟩ := h
      rw [ferr_zero (f := cloE xq)] at h3
      rw [ferr_zero (f := sumE (ro.zip xq) xp)] at h4
      rw [ferr_zero (f := droE dz fz xp xq)] at h5
      refine ⟨by omega, by omega, h1, h2, fun j r q hr hq hc => ?_, fun j r q hr hq hc => ?_, fun j p hp hs => ?_, fun j p hp hs => ?_⟩
      · have := h3 j r hr
        unfold cloE at this
        rw [Nat.zero_add, if_pos hc, getD_eq hq] at this
        split at this
        · assumption
        · exact absurd this (by decide)
      · have := h5 j r hr
        unfold droE at this
        rw [Nat.zero_add, hc, if_neg (by decide), getD_eq hq, outE_zero] at this
        exact this
      · have := h4 j p hp
        unfold sumE at this
        rw [Nat.zero_add, if_pos hs] at this
        split at this
        · assumption
        · exact absurd this (by decide)
      · have := h4 j p hp
        unfold sumE at this
        rw [Nat.zero_add, hs, if_neg (by decide)] at this
        split at this
        · assumption
        · exact absurd this (by decide)
    · exact absurd h (by decide)
  · exact absurd h (by decide)
/-- At the limits of flows the pressures of what is made are far away. -/
theorem MadeOk.far {pl : List Pl} {ro : List Ro} {fa : List Fa} {dr : List Do} {sf sd xp xq : List Int} (h : MadeOk pl ro fa dr sf sd xp xq) (sf' sd' : List Int) (i : Int) {r : Ro} (hr : r ∈ ro) :
    (drop (dr.zip sd') (fa.zip sf') i r (-1048577)).2 ≤ -1000000000000 ∧ 1000000000000 ≤ (drop (dr.zip sd') (fa.zip sf') i r 1048577).1 := by
  have ha := AirOk.of h.air
  obtain ⟨r1, r2, r3⟩ := Go.Vi.B.rOf_bd ha sd' i hr
  have hl := h.lift r hr
  have bf : ∀ q, -6000 ≤ (fsum (fa.zip sf') i q).1 ∧ (fsum (fa.zip sf') i q).1 ≤ (fsum (fa.zip sf') i q).2 ∧ (fsum (fa.zip sf') i q).2 ≤ 6000 := fun q => by
    have := sumS_bd (lo := -3000) (hi := 3000) (by omega) (by omega) (((fa.zip sf').filter fun x => decide (x.1.1 = i)).map fun x => sure x.1.2.2.2 x.1.2.1 x.2 q) 2 (fun y hy => by
      obtain ⟨x, hx, rfl⟩ := List.mem_map.1 hy
      have hx := (List.of_mem_zip (List.mem_filter.1 hx).1).1
      have hp := h.pts _ hx
      have := hp.f1 0 (by have := hp.ne; omega)
      exact sure_max (ha.fan _ hx).1 this.2 (by omega) _ _ _) (by
      have := List.length_filter_le (fun x : Fa × Int => decide (x.1.1 = i)) (fa.zip sf')
      have a := h.nfa
      simp only [List.length_map, List.length_zip] at this ⊢; omega)
    unfold A.fsum A.bsum; omega
  have b1 := bf (-1048577); have b2 := bf 1048577
  have m1 := Int.mul_le_mul_of_nonneg_right r1 (show (0 : Int) ≤ 1099513724929 by omega)
  unfold drop drp
  rw [if_pos (by omega), if_neg (by omega)]
  simp only [show ((-1048577 : Int) * -1048577) = 1099513724929 by decide, show ((1048577 : Int) * 1048577) = 1099513724929 by decide]
  omega
end Go.Vi.A
/- minecontrol/minecontrollaw09.BranchDoors -/
namespace Go.Vi.B
open Go.Proofs
set_option linter.unusedVariables false
set_option maxRecDepth 100000
abbrev F9.i : Sh := [(0, .one (.lst .pin 5 (.int .u8))), (2, .one .i), (4, .one .i), (6, .one .i), (8, .one .i)]
abbrev F9.o0 : Sh := [(0, .one .bool)]
noncomputable def F9.K {β : Type} (N : Nat) (a0 : List Int) (a1 a2 a3 a4 : Int) (k0 : Bool → Option β) : Option β :=
 F10.C N a0 fun r1 r2 =>
 F11.C N r1 r2 fun _ _ r5 r6 r7 r8 _ _ r11 r12 =>
 br ((r6.length : Int) = 0) (
  F16.C N fun r13 =>
  k0 r13) <|
 F22.C N a1 (r6.length : Int) fun r14 =>
 F14.C N r11 r12 r14 fun r15 r16 r17 r18 r19 =>
 ck (r8.length + 1 ≤ 1000000000) <|
 F21.C N r18 r19 r5 r6 r7 (r8 ++ [(r15, (r16, r17))]) fun r20 r21 _ _ =>
 ck (0 ≤ (w (((r8 ++ [(r15, (r16, r17))]).length : Int) - 1))) <|
 ge ((r8 ++ [(r15, (r16, r17))])[(w (((r8 ++ [(r15, (r16, r17))]).length : Int) - 1)).toNat]?) fun _ =>
 ge ((r8 ++ [(r15, (r16, r17))])[(w (((r8 ++ [(r15, (r16, r17))]).length : Int) - 1)).toNat]?) fun _ =>
 ge ((r8 ++ [(r15, (r16, r17))])[(w (((r8 ++ [(r15, (r16, r17))]).length : Int) - 1)).toNat]?) fun x26 =>
 ck (0 ≤ (w (((r8 ++ [(r15, (r16, r17))]).length : Int) - 1))) <|
 ge ((r8 ++ [(r15, (r16, r17))])[(w (((r8 ++ [(r15, (r16, r17))]).length : Int) - 1)).toNat]?) fun _ =>
 ge ((r8 ++ [(r15, (r16, r17))])[(w (((r8 ++ [(r15, (r16, r17))]).length : Int) - 1)).toNat]?) fun _ =>
 ge ((r8 ++ [(r15, (r16, r17))])[(w (((r8 ++ [(r15, (r16, r17))]).length : Int) - 1)).toNat]?) fun x29 =>
 F22.C N a2 (w ((x29.2.2.length : Int) - 1)) fun r30 =>
 ck (0 ≤ (w (((r8 ++ [(r15, (r16, r17))]).length : Int) - 1))) <|
 ge (r21[(w (((r8 ++ [(r15, (r16, r17))]).length : Int) - 1)).toNat]?) fun _ =>
 ge (r21[(w (((r8 ++ [(r15, (r16, r17))]).length : Int) - 1)).toNat]?) fun _ =>
 ck (0 + (r21.set ((w (((r8 ++ [(r15, (r16, r17))]).length : Int) - 1)).toNat) r30).length ≤ 1000000000) <|
 ck (0 ≤ (w (((r8 ++ [(r15, (r16, r17))]).length : Int) - 1))) <|
 ge ((r21.set ((w (((r8 ++ [(r15, (r16, r17))]).length : Int) - 1)).toNat) r30)[(w (((r8 ++ [(r15, (r16, r17))]).length : Int) - 1)).toNat]?) fun _ =>
 ge ((r21.set ((w (((r8 ++ [(r15, (r16, r17))]).length : Int) - 1)).toNat) r30)[(w (((r8 ++ [(r15, (r16, r17))]).length : Int) - 1)).toNat]?) fun _ =>
 ck (0 + (r21.set ((w (((r8 ++ [(r15, (r16, r17))]).length : Int) - 1)).toNat) r30).length ≤ 1000000000) <|
 ck (0 ≤ (w (((r8 ++ [(r15, (r16, r17))]).length : Int) - 1))) <|
 ge ((r21.set ((w (((r8 ++ [(r15, (r16, r17))]).length : Int) - 1)).toNat) r30)[(w (((r8 ++ [(r15, (r16, r17))]).length : Int) - 1)).toNat]?) fun _ =>
 ge ((r21.set ((w (((r8 ++ [(r15, (r16, r17))]).length : Int) - 1)).toNat) r30)[(w (((r8 ++ [(r15, (r16, r17))]).length : Int) - 1)).toNat]?) fun _ =>
 F22.C N a3 200000 fun r37 =>
 F25.C N r5 r6 r7 (r8 ++ [(r15, (r16, r17))]) r20 (r21.set ((w (((r8 ++ [(r15, (r16, r17))]).length : Int) - 1)).toNat) r30) x26.1 (w (r37 - 100000)) fun r38 r39 =>
 F25.C N r5 r6 r7 (r8 ++ [(r15, (r16, r17))]) r20 ((r21.set ((w (((r8 ++ [(r15, (r16, r17))]).length : Int) - 1)).toNat) r30).set ((w (((r8 ++ [(r15, (r16, r17))]).length : Int) - 1)).toNat) (w (r30 + 1))) x26.1 (w (r37 - 100000)) fun r40 r41 =>
 F25.C N r5 r6 r7 (r8 ++ [(r15, (r16, r17))]) r20 ((r21.set ((w (((r8 ++ [(r15, (r16, r17))]).length : Int) - 1)).toNat) r30).set ((w (((r8 ++ [(r15, (r16, r17))]).length : Int) - 1)).toNat) (-1)) x26.1 (w (r37 - 100000)) fun r42 r43 =>
 bl (r38 > 0) (
  bl (r39 < 0) (
   br (r42 > r38) (k0 false) <|
   br (r42 > r40) (k0 false) <|
   br (r43 < r39) (k0 false) <|
   br (r43 < r41) (k0 false) <|
   F22.C N a4 400 fun r62 =>
   F23.C N r5 r6 r7 (r8 ++ [(r15, (r16, r17))]) r20 (r21.set ((w (((r8 ++ [(r15, (r16, r17))]).length : Int) - 1)).toNat) r30) x26.1 (w (r62 - 200)) fun r63 r64 =>
   F23.C N r5 r6 r7 (r8 ++ [(r15, (r16, r17))]) r20 ((r21.set ((w (((r8 ++ [(r15, (r16, r17))]).length : Int) - 1)).toNat) r30).set ((w (((r8 ++ [(r15, (r16, r17))]).length : Int) - 1)).toNat) (-1)) x26.1 (w (r62 - 200)) fun r65 r66 =>
   bl (r65 ≤ r63) (k0 false) <|
   bl (r66 ≥ r64) (k0 false) <|
   F16.C N fun r67 =>
   k0 r67) <|
  br (r41 > r39) (k0 false) <|
  br (r42 > r38) (k0 false) <|
  br (r42 > r40) (k0 false) <|
  br (r43 < r39) (k0 false) <|
  br (r43 < r41) (k0 false) <|
  F22.C N a4 400 fun r56 =>
  F23.C N r5 r6 r7 (r8 ++ [(r15, (r16, r17))]) r20 (r21.set ((w (((r8 ++ [(r15, (r16, r17))]).length : Int) - 1)).toNat) r30) x26.1 (w (r56 - 200)) fun r57 r58 =>
  F23.C N r5 r6 r7 (r8 ++ [(r15, (r16, r17))]) r20 ((r21.set ((w (((r8 ++ [(r15, (r16, r17))]).length : Int) - 1)).toNat) r30).set ((w (((r8 ++ [(r15, (r16, r17))]).length : Int) - 1)).toNat) (-1)) x26.1 (w (r56 - 200)) fun r59 r60 =>
  bl (r59 ≤ r57) (k0 false) <|
  bl (r60 ≥ r58) (k0 false) <|
  F16.C N fun r61 =>
  k0 r61) <|
 br (r40 < r38) (k0 false) <|
 bl (r39 < 0) (
  br (r42 > r38) (k0 false) <|
  br (r42 > r40) (k0 false) <|
  br (r43 < r39) (k0 false) <|
  br (r43 < r41) (k0 false) <|
  F22.C N a4 400 fun r50 =>
  F23.C N r5 r6 r7 (r8 ++ [(r15, (r16, r17))]) r20 (r21.set ((w (((r8 ++ [(r15, (r16, r17))]).length : Int) - 1)).toNat) r30) x26.1 (w (r50 - 200)) fun r51 r52 =>
  F23.C N r5 r6 r7 (r8 ++ [(r15, (r16, r17))]) r20 ((r21.set ((w (((r8 ++ [(r15, (r16, r17))]).length : Int) - 1)).toNat) r30).set ((w (((r8 ++ [(r15, (r16, r17))]).length : Int) - 1)).toNat) (-1)) x26.1 (w (r50 - 200)) fun r53 r54 =>
  bl (r53 ≤ r51) (k0 false) <|
  bl (r54 ≥ r52) (k0 false) <|
  F16.C N fun r55 =>
  k0 r55) <|
 br (r41 > r39) (k0 false) <|
 br (r42 > r38) (k0 false) <|
 br (r42 > r40) (k0 false) <|
 br (r43 < r39) (k0 false) <|
 br (r43 < r41) (k0 false) <|
 F22.C N a4 400 fun r44 =>
 F23.C N r5 r6 r7 (r8 ++ [(r15, (r16, r17))]) r20 (r21.set ((w (((r8 ++ [(r15, (r16, r17))]).length : Int) - 1)).toNat) r30) x26.1 (w (r44 - 200)) fun r45 r46 =>
 F23.C N r5 r6 r7 (r8 ++ [(r15, (r16, r17))]) r20 ((r21.set ((w (((r8 ++ [(r15, (r16, r17))]).length : Int) - 1)).toNat) r30).set ((w (((r8 ++ [(r15, (r16, r17))]).length : Int) - 1)).toNat) (-1)) x26.1 (w (r44 - 200)) fun r47 r48 =>
 bl (r47 ≤ r45) (k0 false) <|
 bl (r48 ≥ r46) (k0 false) <|
 F16.C N fun r49 =>
 k0 r49
noncomputable def F9.fx : Fx := ⟨Try.prog, [], [10], [(0,[0,1,2,3,4]),(1,[1,2,3,4,11]),(2,[1,2,3,4,11,12]),(3,[1,2,3,4,11,12,40]),(4,[10]),(5,[2,3,4,11,12]),(6,[2,3,4,12,15]),(7,[2,3,4,12,15,16,17]),(8,[3,4,12,15,16,17,18]),(9,[3,4,12,15,16,17,18]),(10,[3,4,12,15,16,17,18,19]),(11,[3,4,12,15,16,17,19]),(12,[3,4,12,15,16,17,19,20]),(13,[3,4,12,15,17,19,20]),(14,[4,12,15,17,19,20,21]),(15,[4,12,15,17,20,22,23,24]),(16,[4,12,15,17,20,175]),(17,[10]),(18,[12,15,17,20,25]),(19,[26,27]),(20,[10])], 204, []⟩
noncomputable def F9.cs (N : Nat) : List (Ctr Try.prog) := [F10.X N, F11.X N, F16.X N, F22.X N, F14.X N, F21.X N, F25.X N, F23.X N]
noncomputable def F9.C {β : Type} (N : Nat) := (Sealed fun β => @F9.K β).1 β N
theorem F9.C_eq {β : Type} (N : Nat) : @F9.C β N = @F9.K β N := congrFun (congrFun (Sealed fun β => @F9.K β).2 β) N
noncomputable def F9.X (N : Nat) : Ctr Try.prog := mkF 9 Try.f9 F9.fx (F9.cs N) [] F9.i (fun x k => F9.C N x.1 x.2.1 x.2.2.1 x.2.2.2.1 x.2.2.2.2.1 (fun r0 => k (Sh.mk F9.o0 (r0, ())))) (by intros; rw [F9.C_eq]; kernel_rfl) (by kernel_rfl) (by kernel_rfl) (by kernel_rfl) (by kernel_rfl) rfl (by kernel_rfl) rfl (by kernel_rfl) (by kernel_rfl) (by kernel_rfl) (.dead _ 9) rfl
end Go.Vi.B
/- BranchDoors, its residual: true. -/
namespace Go.Vi.A
theorem dsum_snoc (z : DS) (x : Do × Int) (i : Int) : dsum (z ++ [x]) i = if x.1.1 = i then ((dsum z i).1 + (dRest x.1.2.2 x.2).1, (dsum z i).2 + (dRest x.1.2.2 x.2).2) else dsum z i := by
  unfold dsum
  rw [List.filter_append, List.map_append, sumS_append]
  by_cases c : x.1.1 = i
  · simp [c, sumS]
  · simp [c, sumS]
/-- A door more. -/
theorem airE_door {pl : List Pl} {ro : List Ro} {fa : List Fa} {dr : List Do} {sf sd xp xq : List Int} (h : MadeOk pl ro fa dr sf sd xp xq) {d : Do} (h0 : 0 ≤ d.1 ∧ d.1 < (ro.length : Int)) (h1 : d.2.1 = -1) (h2 : Rst d.2.2) : airE pl ro fa (dr ++ [d]) = 0 := by
  have hair := h.air
  have ha := AirOk.of hair
  unfold airE at hair ⊢
  rw [thn_zero] at hair ⊢
  refine ⟨hair.1, ?_⟩
  have h3 := hair.2
  rw [if_neg (by have := h.nfa; omega), thn_zero, thn_zero] at h3 ⊢
  have hd : ∀ e ∈ dr ++ [d], DoorOk ro.length e ∧ e.2.1 = -1 := fun e he => by
    rcases List.mem_append.1 he with he | he
    · exact ⟨ha.door e he, h.other e he⟩
    · simp only [List.mem_singleton] at he
      subst he
      have := h2.two; have := h2.le
      exact ⟨⟨h0, by omega, by omega, fun x hx => by have := h2.rng x hx; omega, h2.fall⟩, h1⟩
  refine ⟨h3.1, ?_, ?_⟩
  · unfold doorsE
    rw [if_neg (by have := h.ndr; simp; omega), ferr_zero]
    intro j e he
    obtain ⟨o, oo⟩ := hd e (List.mem_of_getElem? he)
    have t1 := o.two; have t2 := o.six; have t3 := o.road
    unfold doorE
    rw [if_neg (by omega), if_neg (by omega), if_neg (by omega), thn_zero, thn_zero, ferr_zero, ferr_zero]
    refine ⟨fun k x hx => ?_, fun k x hx => ?_, ?_⟩
    · have := o.rng x (List.mem_of_getElem? hx)
      unfold restE; rw [if_neg (by omega), if_neg (by omega)]
    · unfold fallE
      by_cases c : 0 + k = 0
      · rw [if_pos c]
      · have := o.fall k x hx (by omega)
        rw [Nat.zero_add] at c ⊢
        rw [if_neg c, if_neg (by omega)]
    · unfold otherE; rw [if_pos oo]
  · rw [ferr_zero]; intro j e he
    have := (hd e (List.mem_of_getElem? he)).1.road
    unfold doorInE; rw [if_neg (by omega)]
theorem SetOk.set {fa : List Fa} {dr : List Do} {sf sd : List Int} (h : SetOk fa dr sf sd) {j : Nat} {d : Do} (hd : dr[j]? = some d) {x : Int} (h0 : -1 ≤ x) (h1 : x < (d.2.2.length : Int)) : SetOk fa dr sf (sd.set j x) :=
  ⟨h.lf, by rw [List.length_set]; exact h.ld, h.f, fun k e y he hy => by
    by_cases c : k = j
    · subst c
      rw [List.getElem?_set_self (by rw [h.ld]; exact idx hd)] at hy
      have : e = d := by rw [hd] at he; simpa using he.symm
      subst this
      simp only [Option.some.injEq] at hy
      subst hy; exact ⟨h0, h1⟩
    · rw [List.getElem?_set_ne (by omega)] at hy
      exact h.d k e y he hy⟩
theorem set_last {sd : List Int} {n : Nat} (h : sd.length = n + 1) (x : Int) : sd.set n x = sd.take n ++ [x] := by
  refine List.ext_getElem? fun k => ?_
  rw [List.getElem?_set]
  by_cases c : n = k
  · subst c
    rw [if_pos rfl, if_pos (by omega), List.getElem?_append_right (by rw [List.length_take]; omega)]
    simp [List.length_take, h]
  · rw [if_neg c]
    by_cases d : k < n
    · rw [List.getElem?_append_left (by rw [List.length_take]; omega), List.getElem?_take_of_lt d]
    · rw [List.getElem?_eq_none (by omega), List.getElem?_eq_none (by simp [List.length_take, h]; omega)]
theorem drp_wide {rest rest' lift fs : Sp} {q : Int} (h1 : rest'.1 ≤ rest.1) (h2 : rest.2 ≤ rest'.2) : (drp rest' lift fs q).1 ≤ (drp rest lift fs q).1 ∧ (drp rest lift fs q).2 ≤ (drp rest' lift fs q).2 := by
  have s0 : 0 ≤ q * q := by
    by_cases c : 0 ≤ q
    · exact Int.mul_nonneg c c
    · have := Int.mul_nonneg (show 0 ≤ -q by omega) (show 0 ≤ -q by omega); rwa [sq_neg] at this
  have m1 := Int.mul_le_mul_of_nonneg_right h1 s0
  have m2 := Int.mul_le_mul_of_nonneg_right h2 s0
  unfold drp; split <;> (simp only; omega)
theorem drp_more {rest rest' lift fs : Sp} {q : Int} (h1 : rest'.1 ≤ rest.1) (h2 : rest'.2 ≤ rest.2) : (0 ≤ q → (drp rest' lift fs q).2 ≤ (drp rest lift fs q).2) ∧ (q ≤ 0 → (drp rest lift fs q).1 ≤ (drp rest' lift fs q).1) := by
  have s0 : 0 ≤ q * q := by
    by_cases c : 0 ≤ q
    · exact Int.mul_nonneg c c
    · have := Int.mul_nonneg (show 0 ≤ -q by omega) (show 0 ≤ -q by omega); rwa [sq_neg] at this
  have m1 := Int.mul_le_mul_of_nonneg_right h1 s0
  have m2 := Int.mul_le_mul_of_nonneg_right h2 s0
  unfold drp
  refine ⟨fun hq => ?_, fun hq => ?_⟩
  · rw [if_neg (by omega), if_neg (by omega)]; simp only; omega
  · by_cases c : q < 0
    · rw [if_pos c, if_pos c]; simp only; omega
    · obtain rfl : q = 0 := by omega
      rw [if_neg c, if_neg c]; simp only [Int.mul_zero]; omega
end Go.Vi.A
namespace Go.Vi.B
open Go.Proofs Go.Vi.A
set_option linter.unusedVariables false
set_option linter.unusedSimpArgs false
variable {β : Type} {N : Nat} (hN : 1000 ≤ N)
include hN in
theorem branchDoors {a0 : List Int} (h0 : ∀ x ∈ a0, 0 ≤ x ∧ x ≤ 255) (a1 a2 a3 a4 : Int) (k : Bool → Option β) : F9.C N a0 a1 a2 a3 a4 k = k true := by
  obtain ⟨l, c0, e0⟩ := draw_New (β := β) (N := N) h0
  obtain ⟨pl, ro, fa, dr, sf, sd, xp, xq, b3, c1, m1, e1⟩ := draw_Made (β := β) hN c0
  have n1 := m1.nro; have n2 := m1.nfa; have n3 := m1.ndr
  rw [F9.C_eq]; unfold F9.K
  rw [e0, e1]
  simp only [res, awake hN]
  by_cases c : (ro.length : Int) = 0
  · rw [if_pos c]
  rw [if_neg c]
  obtain ⟨i, x4, _, e4⟩ := draw_Mod (β := β) (N := N) a1 (ro.length : Int) (by omega)
  have i0 := x4.lo; have i1 := x4.hi (by omega)
  obtain ⟨ys, b4, c2, rs, e5⟩ := draw_Door (β := β) hN c1 i
  have y2 := rs.two; have y4 := rs.le
  have hair : airE pl ro fa (dr ++ [(i, (-1, ys))]) = 0 := airE_door m1 (d := (i, (-1, ys))) ⟨i0, i1⟩ rfl rs
  obtain ⟨tf, td, b5, c3, s2, e6⟩ := draw_Setting (β := β) hN c2 pl ro (fa := fa) (dr := dr ++ [(i, (-1, ys))]) (by omega) (by simp; omega) (fun d hd => by
    rcases List.mem_append.1 hd with hd | hd
    · have := m1.rest d hd; omega
    · simp only [List.mem_singleton] at hd; subst hd; simp only; omega)
  obtain ⟨n, x7, _, e7⟩ := draw_Mod (β := β) (N := N) a2 ((ys.length : Int) - 1) (by omega)
  have q0 := x7.lo; have q1 := x7.hi (by omega)
  obtain ⟨t, x8, _, e8⟩ := draw_Mod (β := β) (N := N) a3 200000 (by omega)
  have t0 := x8.lo; have t1 := x8.hi (by omega)
  obtain ⟨s, x9, _, e9⟩ := draw_Mod (β := β) (N := N) a4 400 (by omega)
  have s0 := x9.lo; have s1 := x9.hi (by omega)
  have hl : ((dr ++ [(i, (-1, ys))]).length : Int) = (dr.length : Int) + 1 := by simp
  have hw : w (((dr ++ [(i, (-1, ys))]).length : Int) - 1) = (dr.length : Int) := by rw [hl, w_id (by omega) (by omega)]; omega
  have hd : (dr ++ [((i, (-1, ys)) : Do)])[dr.length]? = some (i, (-1, ys)) := by simp
  have ld : td.length = dr.length + 1 := by have := s2.ld; simpa using this
  obtain ⟨u, hu⟩ := getl (show dr.length < td.length by omega)
  simp only [e4, e5, e6, hw, Int.toNat_natCast, hd, ge_some, w_id (x := (ys.length : Int) - 1) (by omega) (by omega), e7, hu, List.length_set, List.getElem?_set_self (show dr.length < td.length by omega), e8, e9, branch_Drop hN, branch_Flow hN, List.set_set, Int.natCast_nonneg, if_true, w_id (x := n + 1) (by omega) (by omega), w_id (x := t - 100000) (by omega) (by omega), w_id (x := s - 200) (by omega) (by omega)]
  rw [if_pos (by omega), if_pos (by omega), if_pos (by omega)]
  have fs := (s2.set hd (x := n) (by omega) (by simp only; omega)).fit
  have ft := (s2.set hd (x := n + 1) (by omega) (by simp only; omega)).fit
  have fu := (s2.set hd (x := -1) (by omega) (by simp only; omega)).fit
  obtain ⟨r, hr⟩ := geti (xs := ro) i0 i1
  cases hc : r.2.2.2.2.2.1 with
  | true =>
    simp only [(closed_of hair fs i0 hr hc _).1, (closed_of hair fs i0 hr hc _).2, (closed_of hair ft i0 hr hc _).2, (closed_of hair fu i0 hr hc _).1, (closed_of hair fu i0 hr hc _).2, gt_iff_lt, ge_iff_le, Int.lt_irrefl, Int.le_refl, if_true, if_false]
  | false =>
    have ha := AirOk.of hair
    have rS := drop_ris ha tf (td.set dr.length n) i (List.mem_of_getElem? hr)
    have rT := drop_ris ha tf (td.set dr.length (n + 1)) i (List.mem_of_getElem? hr)
    have rU := drop_ris ha tf (td.set dr.length (-1)) i (List.mem_of_getElem? hr)
    have ez : ∀ x, (dr ++ [((i, (-1, ys)) : Do)]).zip (td.set dr.length x) = dr.zip (td.take dr.length) ++ [((i, (-1, ys)), x)] := fun x => by
      rw [set_last ld, List.zip_append (by rw [List.length_take]; omega)]; rfl
    have er : ∀ x, rOf ((dr ++ [((i, (-1, ys)) : Do)]).zip (td.set dr.length x)) i r = (r.2.2.2.2.2.2.1.1 + ((dsum (dr.zip (td.take dr.length)) i).1 + (dRest ys x).1), r.2.2.2.2.2.2.1.2 + ((dsum (dr.zip (td.take dr.length)) i).2 + (dRest ys x).2)) := fun x => by
      unfold rOf; rw [ez, dsum_snoc, if_pos rfl]
    have dS : dRest ys n = (ys.getD n.toNat 0, ys.getD n.toNat 0) := by unfold dRest; rw [if_neg (by omega), if_neg (by omega), if_neg (by omega), if_neg (by omega)]
    have dT : dRest ys (n + 1) = (ys.getD (n + 1).toNat 0, ys.getD (n + 1).toNat 0) := by unfold dRest; rw [if_neg (by omega), if_neg (by omega), if_neg (by omega), if_neg (by omega)]
    have hf := rs.fall (n + 1).toNat _ (getD_get (d := 0) (by omega)) (by omega)
    rw [show (n + 1).toNat - 1 = n.toNat by omega] at hf
    have uS := dRest_unknown (l := ys) (s := n) q0 (by omega)
    have uT := dRest_unknown (l := ys) (s := n + 1) (by omega) (by omega)
    have wS := fun q => drp_wide (rest := rOf ((dr ++ [((i, (-1, ys)) : Do)]).zip (td.set dr.length n)) i r) (rest' := rOf ((dr ++ [((i, (-1, ys)) : Do)]).zip (td.set dr.length (-1))) i r) (lift := r.2.2.2.2.2.2.2) (fs := fsum (fa.zip tf) i q) (q := q) (by rw [er, er]; simp only; omega) (by rw [er, er]; simp only; omega)
    have wT := fun q => drp_wide (rest := rOf ((dr ++ [((i, (-1, ys)) : Do)]).zip (td.set dr.length (n + 1))) i r) (rest' := rOf ((dr ++ [((i, (-1, ys)) : Do)]).zip (td.set dr.length (-1))) i r) (lift := r.2.2.2.2.2.2.2) (fs := fsum (fa.zip tf) i q) (q := q) (by rw [er, er]; simp only; omega) (by rw [er, er]; simp only; omega)
    have mT := fun q => drp_more (rest := rOf ((dr ++ [((i, (-1, ys)) : Do)]).zip (td.set dr.length n)) i r) (rest' := rOf ((dr ++ [((i, (-1, ys)) : Do)]).zip (td.set dr.length (n + 1))) i r) (lift := r.2.2.2.2.2.2.2) (fs := fsum (fa.zip tf) i q) (q := q) (by rw [er, er, dS, dT]; simp only; omega) (by rw [er, er, dS, dT]; simp only; omega)
    have wS : ∀ q, (drop ((dr ++ [((i, (-1, ys)) : Do)]).zip (td.set dr.length (-1))) (fa.zip tf) i r q).1 ≤ (drop ((dr ++ [((i, (-1, ys)) : Do)]).zip (td.set dr.length n)) (fa.zip tf) i r q).1 ∧ (drop ((dr ++ [((i, (-1, ys)) : Do)]).zip (td.set dr.length n)) (fa.zip tf) i r q).2 ≤ (drop ((dr ++ [((i, (-1, ys)) : Do)]).zip (td.set dr.length (-1))) (fa.zip tf) i r q).2 := wS
    have wT : ∀ q, (drop ((dr ++ [((i, (-1, ys)) : Do)]).zip (td.set dr.length (-1))) (fa.zip tf) i r q).1 ≤ (drop ((dr ++ [((i, (-1, ys)) : Do)]).zip (td.set dr.length (n + 1))) (fa.zip tf) i r q).1 ∧ (drop ((dr ++ [((i, (-1, ys)) : Do)]).zip (td.set dr.length (n + 1))) (fa.zip tf) i r q).2 ≤ (drop ((dr ++ [((i, (-1, ys)) : Do)]).zip (td.set dr.length (-1))) (fa.zip tf) i r q).2 := wT
    have mT : ∀ q, (0 ≤ q → (drop ((dr ++ [((i, (-1, ys)) : Do)]).zip (td.set dr.length (n + 1))) (fa.zip tf) i r q).2 ≤ (drop ((dr ++ [((i, (-1, ys)) : Do)]).zip (td.set dr.length n)) (fa.zip tf) i r q).2) ∧ (q ≤ 0 → (drop ((dr ++ [((i, (-1, ys)) : Do)]).zip (td.set dr.length n)) (fa.zip tf) i r q).1 ≤ (drop ((dr ++ [((i, (-1, ys)) : Do)]).zip (td.set dr.length (n + 1))) (fa.zip tf) i r q).1) := mT
    rw [flow_of hair fs i0 hr hc, flow_of hair ft i0 hr hc, flow_of hair fu i0 hr hc, drop_of hair fs i0 hr hc (by omega) (by omega), drop_of hair fu i0 hr hc (by omega) (by omega)]
    simp only
    generalize drop ((dr ++ [((i, (-1, ys)) : Do)]).zip (td.set dr.length n)) (fa.zip tf) i r = fS at *
    generalize drop ((dr ++ [((i, (-1, ys)) : Do)]).zip (td.set dr.length (n + 1))) (fa.zip tf) i r = fT at *
    generalize drop ((dr ++ [((i, (-1, ys)) : Do)]).zip (td.set dr.length (-1))) (fa.zip tf) i r = fU at *
    have g1 : fLow fU (t - 100000) ≤ fLow fS (t - 100000) := fLow_mono rS fun q _ _ h => by have := wS q; omega
    have g2 : fLow fU (t - 100000) ≤ fLow fT (t - 100000) := fLow_mono rT fun q _ _ h => by have := wT q; omega
    have g3 : fHigh fS (t - 100000) ≤ fHigh fU (t - 100000) := fHigh_mono rS fun q _ _ h => by have := wS q; omega
    have g4 : fHigh fT (t - 100000) ≤ fHigh fU (t - 100000) := fHigh_mono rT fun q _ _ h => by have := wT q; omega
    have g5 := wS (s - 200)
    have g6 : fLow fS (t - 100000) > 0 → ¬ fLow fT (t - 100000) < fLow fS (t - 100000) := fun h => by
      obtain ⟨b1, b2, b3, _⟩ := fLow_spec fS (t - 100000)
      have := le_fLow rT (p := t - 100000) b2 (by have := (mT (fLow fS (t - 100000))).1 (by omega); have := b3.resolve_left (by omega); omega)
      omega
    have g7 : fHigh fS (t - 100000) < 0 → ¬ fHigh fT (t - 100000) > fHigh fS (t - 100000) := fun h => by
      obtain ⟨b1, b2, b3, _⟩ := fHigh_spec fS (t - 100000)
      have := fHigh_le rT (p := t - 100000) b1 (by have := (mT (fHigh fS (t - 100000))).2 (by omega); have := b3.resolve_left (by omega); omega)
      omega
    have h1 : ¬ fLow fU (t - 100000) > fLow fS (t - 100000) := by omega
    have h2 : ¬ fLow fU (t - 100000) > fLow fT (t - 100000) := by omega
    have h3 : ¬ fHigh fU (t - 100000) < fHigh fS (t - 100000) := by omega
    have h4 : ¬ fHigh fU (t - 100000) < fHigh fT (t - 100000) := by omega
    have h5 : (fU (s - 200)).2 ≥ (fS (s - 200)).2 := g5.2
    by_cases c1 : fLow fS (t - 100000) > 0
    · by_cases c2 : fHigh fS (t - 100000) < 0
      · simp only [c1, c2, g6 c1, g7 c2, h1, h2, h3, h4, g5.1, h5, if_true, if_false]
      · simp only [c1, c2, g6 c1, h1, h2, h3, h4, g5.1, h5, if_true, if_false]
    · by_cases c2 : fHigh fS (t - 100000) < 0
      · simp only [c1, c2, g7 c2, h1, h2, h3, h4, g5.1, h5, if_true, if_false]
      · simp only [c1, c2, h1, h2, h3, h4, g5.1, h5, if_true, if_false]
end Go.Vi.B
namespace Go.Proofs.Ytbheofpanlpnkaa.branchDoors
open Go.ChangeShapes Go.WideShapes Go.ChangeAt Go.RowKit Go.Vi Go.Vi.A Go.Vi.B
set_option linter.unusedVariables false
theorem own : ownKnob Try.prog.godebug = none := by kernel_rfl
theorem laidOut : laidOutB Try.prog = true := by kernel_rfl
theorem o5 : Opn Try.prog 5 (.int .u8) := Opn.int Try.underlying5 (by kernel_rfl)
theorem o22 : Opn Try.prog 22 (.fz 5 (.int .u8)) := Opn.slice Try.underlying22 (by kernel_rfl) o5
set_option maxHeartbeats 2000000 in
set_option maxRecDepth 100000 in
theorem lifted (os : Os) (started : os.Started) (H : Type) (enc : TypeId × Value → H) :
    ReturnsInHanded {} Try.checked os 9 .any (Rows.branchDoorsSpec.pre6 enc Try.prog Try.f9 Rows.branchDoorsRow.domain false) (Rows.branchDoorsSpec.post enc Try.prog Try.f9 false true false false) := by
  refine returnsInHanded_of_change_sized (C := Try.checked) own started (by kernel_rfl) Try.func9
    (ChangeSpec.witness6 (enc := enc) (C := Try.checked) false ⟨#[], #[.slice none 0 0, .int .i64 0, .int .i64 0, .int .i64 0, .int .i64 0], []⟩ 8 (by kernel_rfl) (by kernel_rfl) (by kernel_rfl) (by kernel_rfl)) ?_
  intro W base args ds gs before hval0 hW hcnd hsz0 _
  have hval : ∀ (j : Nat) t v, Try.f9.params[j]? = some t → args[j]? = some v → Value.okWide Try.prog W .any base t v := hval0
  have hW' := hW
  obtain ⟨p, q, hA0, hV, rfl, hfz, hnd⟩ := hW
  have hA : DataW.TrodAll enc Try.prog W 0 (fun _ => true) true Try.f9.params.toList args.toList ds p := hA0
  rw [Try.params9] at hA hval
  obtain ⟨v0, vs0, d0, ds0, p0, q0, hargs, rfl, rfl, h0, r0⟩ := trodAll_cons hA
  obtain ⟨v1, vs1, d1, ds1, p1, q1, rfl, rfl, rfl, h1, r1⟩ := trodAll_cons r0
  obtain ⟨v2, vs2, d2, ds2, p2, q2, rfl, rfl, rfl, h2, r2⟩ := trodAll_cons r1
  obtain ⟨v3, vs3, d3, ds3, p3, q3, rfl, rfl, rfl, h3, r3⟩ := trodAll_cons r2
  obtain ⟨v4, vs4, d4, ds4, p4, q4, rfl, rfl, rfl, h4, r4⟩ := trodAll_cons r3
  obtain ⟨rfl, rfl, rfl⟩ := trodAll_nil r4
  obtain rfl : args = #[v0, v1, v2, v3, v4] := by cases args; simp_all
  obtain ⟨rfl, rfl⟩ := trodVars_none hV
  have k0 := h0
  have lt0 : ∀ x ∈ p0, x.block < W.heap.size := by obtain ⟨m, hm⟩ := k0; exact DataW.trod_lt m _ _ _ hm
  have k1 := h1
  have lt1 : ∀ x ∈ p1, x.block < W.heap.size := by obtain ⟨m, hm⟩ := k1; exact DataW.trod_lt m _ _ _ hm
  have k2 := h2
  have lt2 : ∀ x ∈ p2, x.block < W.heap.size := by obtain ⟨m, hm⟩ := k2; exact DataW.trod_lt m _ _ _ hm
  have k3 := h3
  have lt3 : ∀ x ∈ p3, x.block < W.heap.size := by obtain ⟨m, hm⟩ := k3; exact DataW.trod_lt m _ _ _ hm
  have k4 := h4
  have lt4 : ∀ x ∈ p4, x.block < W.heap.size := by obtain ⟨m, hm⟩ := k4; exact DataW.trod_lt m _ _ _ hm
  obtain ⟨A0, len0, cap0, rfl⟩ := okWide_slice Try.underlying22 (hval 0 22 v0 rfl rfl)
  obtain ⟨a0, f0, rp0, _, w0⟩ := o22.arg h0
  obtain ⟨a1, rfl, rfl, rfl, w1⟩ := open_int Try.underlying3 (hval 1 3 v1 rfl rfl) h1
  obtain ⟨a2, rfl, rfl, rfl, w2⟩ := open_int Try.underlying3 (hval 2 3 v2 rfl rfl) h2
  obtain ⟨a3, rfl, rfl, rfl, w3⟩ := open_int Try.underlying3 (hval 3 3 v3 rfl rfl) h3
  obtain ⟨a4, rfl, rfl, rfl, w4⟩ := open_int Try.underlying3 (hval 4 3 v4 rfl rfl) h4
  clear hA0 hval0 hsz0
  have g : GoF Try.prog 9 (mkEnt 0 [.one (.lst .pin 5 (.int .u8) a0), .one (.sc (.int .i64 a1)), .one (.sc (.int .i64 a2)), .one (.sc (.int .i64 a3)), .one (.sc (.int .i64 a4))]) [(0, .one (.sc (.bool true)))] := (F9.X 1000).ok _ _ ((by kernel_rfl : (F9.X 1000).run (mkEnt 0 [.one (.lst .pin 5 (.int .u8) a0), .one (.sc (.int .i64 a1)), .one (.sc (.int .i64 a2)), .one (.sc (.int .i64 a3)), .one (.sc (.int .i64 a4))]) some = F9.C 1000 a0 a1 a2 a3 a4 (fun r0 => some (Sh.mk F9.o0 (r0, ())))).trans (branchDoors (Nat.le_refl _) (fun x hx => wf_u8 (w0.2 x hx)) a1 a2 a3 a4 _))
  refine (g.lawE (args := [.slice A0 len0 cap0, .int .i64 a1, .int .i64 a2, .int .i64 a3, .int .i64 a4]) ⟨VOk.list (by decide) rp0, ⟨VOk.int a1, ⟨VOk.int a2, ⟨VOk.int a3, ⟨VOk.int a4, trivial⟩⟩⟩⟩⟩).mono fun e W' ⟨he, bel⟩ => ?_
  subst he
  exact ⟨_, rfl, _, _, _, [], _, [], hW', trodAll_mk1 (shut_bool Try.underlying4 _), (trodAll_cons_mk (Below.trod laidOut (by kernel_rfl) (of_decide_eq_true (by kernel_rfl)) k0 bel lt0) (trodAll_cons_mk (Below.trod laidOut (by kernel_rfl) (of_decide_eq_true (by kernel_rfl)) k1 bel lt1) (trodAll_cons_mk (Below.trod laidOut (by kernel_rfl) (of_decide_eq_true (by kernel_rfl)) k2 bel lt2) (trodAll_cons_mk (Below.trod laidOut (by kernel_rfl) (of_decide_eq_true (by kernel_rfl)) k3 bel lt3) (trodAll_cons_mk (Below.trod laidOut (by kernel_rfl) (of_decide_eq_true (by kernel_rfl)) k4 bel lt4) trodAll_mk0))))), rfl, bel.frame _, fun h => by cases h⟩
theorem over : Rows.branchDoorsRow.holds Try.pinned (OpenSpec.ofChange Rows.branchDoorsSpec) :=
  OpenClaim.holds_of_wide 9 Try.f9 rfl rfl rfl rfl rfl rfl rfl ⟨rfl, rfl, rfl, rfl, rfl⟩ rfl rfl rfl rfl rfl (by kernel_rfl) Try.func9 (by kernel_rfl)
    (of_decide_eq_true (by kernel_rfl)) (by unfold Func.isWrapper; first | (rw [if_pos (by decide +kernel)]; kernel_rfl) | (rw [if_neg (by decide +kernel)]; exact ⟨rfl, rfl⟩))
    (fun os started H enc _ => lifted os started H enc)
theorem proved : Rows.BranchDoorsSaid := over
end Go.Proofs.Ytbheofpanlpnkaa.branchDoors
namespace Go.Proofs.Ytbheofpanlpnkaa
/-- The row, under a short name, for the claim. -/
theorem branchDoors_holds : Rows.BranchDoorsSaid := branchDoors.proved
end Go.Proofs.Ytbheofpanlpnkaa
