/- It is proved that in a state that fits each flow lies in the span of its difference of pressure, and just beyond a span's ends the difference is passed, as the law BranchHolds states it; there are no conditions beyond those of the given row. -/
import Derived.Test.YtbheofpanlpnkaaZd
import Derived.Test.YtbheofpanlpnkaaRows
import Derived.WalkKit
import Derived.ProofKit
import Derived.OpenShut
import Derived.ShutString
import Derived.ChangeOld
import Derived.Below
import Derived.SizedLaws
/- Differences of pressure rise with the flow; what searches find. -/
namespace Go.Vi.A
set_option linter.unusedVariables false
theorem sq_mono {a b : Int} (h0 : 0 ≤ a) (h : a < b) : a * a < b * b := by
  have h1 : a * a ≤ a * b := Int.mul_le_mul_of_nonneg_left (by omega) h0
  have h2 : a * b < b * b := Int.mul_lt_mul_of_pos_right h (by omega)
  omega
theorem sq_neg (q : Int) : (-q) * (-q) = q * q := Int.neg_mul_neg q q
/-- Both ends rise strictly. -/
theorem drp_mono {rest lift fs fs' : Sp} {q q' : Int} (h1 : 1 ≤ rest.1) (h2 : rest.1 ≤ rest.2) (hq : q < q') (hf : fs'.1 ≤ fs.1 ∧ fs'.2 ≤ fs.2) : (drp rest lift fs q).1 < (drp rest lift fs' q').1 ∧ (drp rest lift fs q).2 < (drp rest lift fs' q').2 := by
  have s0 : 0 ≤ q * q := by
    by_cases c : 0 ≤ q
    · exact Int.mul_nonneg c c
    · have := Int.mul_nonneg (show 0 ≤ -q by omega) (show 0 ≤ -q by omega); rwa [sq_neg] at this
  have s0' : 0 ≤ q' * q' := by
    by_cases c : 0 ≤ q'
    · exact Int.mul_nonneg c c
    · have := Int.mul_nonneg (show 0 ≤ -q' by omega) (show 0 ≤ -q' by omega); rwa [sq_neg] at this
  have m1 := Int.mul_nonneg (show 0 ≤ rest.1 by omega) s0'
  have m2 := Int.mul_nonneg (show 0 ≤ rest.2 by omega) s0'
  have m3 := Int.mul_nonneg (show 0 ≤ rest.1 by omega) s0
  have m4 := Int.mul_nonneg (show 0 ≤ rest.2 by omega) s0
  unfold drp
  by_cases c : q < 0
  · by_cases c' : q' < 0
    · have := sq_mono (a := -q') (b := -q) (by omega) (by omega)
      rw [sq_neg, sq_neg] at this
      have a1 := Int.mul_lt_mul_of_pos_left this (show 0 < rest.1 by omega)
      have a2 := Int.mul_lt_mul_of_pos_left this (show 0 < rest.2 by omega)
      rw [if_pos c, if_pos c']; simp only; omega
    · have := sq_mono (a := 0) (b := -q) (by omega) (by omega)
      rw [sq_neg, Int.mul_zero] at this
      have a1 := Int.mul_pos (show 0 < rest.1 by omega) this
      have a2 := Int.mul_pos (show 0 < rest.2 by omega) this
      rw [if_pos c, if_neg c']; simp only; omega
  · have := sq_mono (a := q) (b := q') (by omega) hq
    have a1 := Int.mul_lt_mul_of_pos_left this (show 0 < rest.1 by omega)
    have a2 := Int.mul_lt_mul_of_pos_left this (show 0 < rest.2 by omega)
    rw [if_neg c, if_neg (by omega)]; simp only; omega
theorem sumS_anti {α : Type} {f g : α → Sp} : ∀ (l : List α), (∀ x ∈ l, (g x).1 ≤ (f x).1 ∧ (g x).2 ≤ (f x).2) → (sumS (l.map g)).1 ≤ (sumS (l.map f)).1 ∧ (sumS (l.map g)).2 ≤ (sumS (l.map f)).2
  | [], _ => by simp [sumS]
  | x :: r, h => by
    have ih := sumS_anti r (fun y hy => h y (List.mem_cons_of_mem _ hy))
    have hx := h x List.mem_cons_self
    simp only [List.map_cons, sumS]; omega
theorem fsum_anti {fa : List Fa} {sf : List Int} (h : ∀ f ∈ fa, GoodF f.1 f.2.2.2) (i : Int) {q q' : Int} (hq : q ≤ q') : (fsum (fa.zip sf) i q').1 ≤ (fsum (fa.zip sf) i q).1 ∧ (fsum (fa.zip sf) i q').2 ≤ (fsum (fa.zip sf) i q).2 := by
  unfold fsum bsum
  exact sumS_anti _ fun x hx => sure_anti (h _ (List.of_mem_zip (List.mem_filter.1 hx).1).1) _ _ hq
/-- A function both of whose ends rise strictly, and whose ends are in order. -/
structure Ris (f : Int → Sp) : Prop where
  lo : ∀ q q', q < q' → (f q).1 < (f q').1
  hi : ∀ q q', q < q' → (f q).2 < (f q').2
  le : ∀ q, (f q).1 ≤ (f q).2
theorem bsl_spec {g : Int → Bool} : ∀ (n : Nat) (lo hi : Int), lo ≤ hi → hi - lo < 2 ^ n → lo ≤ bsl g n lo hi ∧ bsl g n lo hi ≤ hi ∧ (bsl g n lo hi = lo ∨ g (bsl g n lo hi) = true) ∧ (bsl g n lo hi = hi ∨ g (bsl g n lo hi + 1) = false)
  | 0, lo, hi, h, hn => by
    have : lo = hi := by simp at hn; omega
    subst this
    simp [bsl]
  | n + 1, lo, hi, h, hn => by
    rw [Int.pow_succ] at hn
    simp only [bsl]
    by_cases c : lo < hi
    · rw [if_pos c]
      cases hg : g (lo + (hi - lo + 1) / 2) with
      | true =>
        rw [if_pos rfl]
        obtain ⟨a1, a2, a3, a4⟩ := bsl_spec (g := g) n (lo + (hi - lo + 1) / 2) hi (by omega) (by omega)
        refine ⟨by omega, a2, .inr ?_, a4⟩
        rcases a3 with e | e
        · rw [e, hg]
        · exact e
      | false =>
        rw [if_neg (by decide)]
        obtain ⟨a1, a2, a3, a4⟩ := bsl_spec (g := g) n lo (lo + (hi - lo + 1) / 2 - 1) (by omega) (by omega)
        refine ⟨a1, by omega, a3, ?_⟩
        rcases a4 with e | e
        · right
          rw [e, show lo + (hi - lo + 1) / 2 - 1 + 1 = lo + (hi - lo + 1) / 2 by omega, hg]
        · exact .inr e
    · rw [if_neg c]
      have : lo = hi := by omega
      subst this
      simp
theorem bsh_spec {g : Int → Bool} : ∀ (n : Nat) (lo hi : Int), lo ≤ hi → hi - lo < 2 ^ n → lo ≤ bsh g n lo hi ∧ bsh g n lo hi ≤ hi ∧ (bsh g n lo hi = hi ∨ g (bsh g n lo hi) = true) ∧ (bsh g n lo hi = lo ∨ g (bsh g n lo hi - 1) = false)
  | 0, lo, hi, h, hn => by
    have : lo = hi := by simp at hn; omega
    subst this
    simp [bsh]
  | n + 1, lo, hi, h, hn => by
    rw [Int.pow_succ] at hn
    simp only [bsh]
    by_cases c : lo < hi
    · rw [if_pos c]
      cases hg : g (lo + (hi - lo) / 2) with
      | true =>
        rw [if_pos rfl]
        obtain ⟨a1, a2, a3, a4⟩ := bsh_spec (g := g) n lo (lo + (hi - lo) / 2) (by omega) (by omega)
        refine ⟨a1, by omega, .inr ?_, a4⟩
        rcases a3 with e | e
        · rw [e, hg]
        · exact e
      | false =>
        rw [if_neg (by decide)]
        obtain ⟨a1, a2, a3, a4⟩ := bsh_spec (g := g) n (lo + (hi - lo) / 2 + 1) hi (by omega) (by omega)
        refine ⟨by omega, a2, a3, ?_⟩
        rcases a4 with e | e
        · right
          rw [e, show lo + (hi - lo) / 2 + 1 - 1 = lo + (hi - lo) / 2 by omega, hg]
        · exact .inr e
    · rw [if_neg c]
      have : lo = hi := by omega
      subst this
      simp
theorem fLow_spec (f : Int → Sp) (p : Int) : -1048577 ≤ fLow f p ∧ fLow f p ≤ 1048576 ∧ (fLow f p = -1048577 ∨ (f (fLow f p)).2 ≤ p) ∧ (fLow f p = 1048576 ∨ p < (f (fLow f p + 1)).2) := by
  obtain ⟨a1, a2, a3, a4⟩ := bsl_spec (g := fun q => decide ((f q).2 ≤ p)) 22 (-1048577) 1048576 (by omega) (by decide)
  exact ⟨a1, a2, a3.imp id of_decide_eq_true, a4.imp id fun h => by have := of_decide_eq_false h; unfold fLow; omega⟩
theorem fHigh_spec (f : Int → Sp) (p : Int) : -1048576 ≤ fHigh f p ∧ fHigh f p ≤ 1048577 ∧ (fHigh f p = 1048577 ∨ p ≤ (f (fHigh f p)).1) ∧ (fHigh f p = -1048576 ∨ (f (fHigh f p - 1)).1 < p) := by
  obtain ⟨a1, a2, a3, a4⟩ := bsh_spec (g := fun q => decide ((f q).1 ≥ p)) 22 (-1048576) 1048577 (by omega) (by decide)
  exact ⟨a1, a2, a3.imp id of_decide_eq_true, a4.imp id fun h => by have := of_decide_eq_false h; unfold fHigh; omega⟩
/-- The least flow is at least what a test allows. -/
theorem le_fLow {f : Int → Sp} (hf : Ris f) {p q : Int} (h0 : q ≤ 1048576) (h : (f q).2 ≤ p) : q ≤ fLow f p := by
  obtain ⟨a1, a2, a3, a4⟩ := fLow_spec f p
  by_cases c : q ≤ fLow f p
  · exact c
  · have h4 := a4.resolve_left (by omega)
    by_cases e : fLow f p + 1 = q
    · rw [e] at h4; omega
    · have := hf.hi (fLow f p + 1) q (by omega); omega
theorem fHigh_le {f : Int → Sp} (hf : Ris f) {p q : Int} (h0 : -1048576 ≤ q) (h : p ≤ (f q).1) : fHigh f p ≤ q := by
  obtain ⟨a1, a2, a3, a4⟩ := fHigh_spec f p
  by_cases c : fHigh f p ≤ q
  · exact c
  · have h4 := a4.resolve_left (by omega)
    by_cases e : fHigh f p - 1 = q
    · rw [e] at h4; omega
    · have := hf.lo q (fHigh f p - 1) (by omega); omega
/-- The least flow is at most where a test fails. -/
theorem fLow_le {f : Int → Sp} (hf : Ris f) {p q : Int} (h0 : -1048577 ≤ q) (h : p ≤ (f q).2) : fLow f p ≤ q := by
  obtain ⟨a1, a2, a3, a4⟩ := fLow_spec f p
  by_cases c : fLow f p ≤ q
  · exact c
  · have h3 := a3.resolve_left (by omega)
    have := hf.hi q (fLow f p) (by omega); omega
theorem le_fHigh {f : Int → Sp} (hf : Ris f) {p q : Int} (h0 : q ≤ 1048577) (h : (f q).1 ≤ p) : q ≤ fHigh f p := by
  obtain ⟨a1, a2, a3, a4⟩ := fHigh_spec f p
  by_cases c : q ≤ fHigh f p
  · exact c
  · have h3 := a3.resolve_left (by omega)
    have := hf.lo (fHigh f p) q (by omega); omega
theorem fLow_le_fHigh {f : Int → Sp} (hf : Ris f) (p : Int) : fLow f p ≤ fHigh f p := by
  obtain ⟨a1, a2, a3, a4⟩ := fLow_spec f p
  obtain ⟨b1, b2, b3, b4⟩ := fHigh_spec f p
  rcases a3 with e | e
  · omega
  · exact le_fHigh hf (by omega) (by have := hf.le (fLow f p); omega)
/-- Where both ends lie within others', so do the flows. -/
theorem fLow_mono {f g : Int → Sp} (hg : Ris g) {p p' : Int} (h : ∀ q, -1048577 ≤ q → q ≤ 1048576 → (f q).2 ≤ p → (g q).2 ≤ p') : fLow f p ≤ fLow g p' := by
  obtain ⟨a1, a2, a3, a4⟩ := fLow_spec f p
  rcases a3 with e | e
  · have := (fLow_spec g p').1; omega
  · exact le_fLow hg a2 (h _ a1 a2 e)
theorem fHigh_mono {f g : Int → Sp} (hf : Ris f) {p p' : Int} (h : ∀ q, -1048576 ≤ q → q ≤ 1048577 → p' ≤ (g q).1 → p ≤ (f q).1) : fHigh f p ≤ fHigh g p' := by
  obtain ⟨a1, a2, a3, a4⟩ := fHigh_spec g p'
  rcases a3 with e | e
  · have := (fHigh_spec f p).2.1; omega
  · exact fHigh_le hf a1 (h _ a1 a2 e)
end Go.Vi.A
namespace Go.Vi.B
open Go.Vi.A
theorem drop_ris {pl : List Pl} {ro : List Ro} {fa : List Fa} {dr : List Do} (h : AirOk pl ro fa dr) (sf sd : List Int) (i : Int) {r : Ro} (hr : r ∈ ro) : Ris (drop (dr.zip sd) (fa.zip sf) i r) := by
  obtain ⟨r1, r2, r3⟩ := rOf_bd h sd i hr
  have hl := (h.road r hr).lift
  have hm := fun q q' (hq : q < q') => drp_mono (lift := r.2.2.2.2.2.2.2) r1 r2 hq (fsum_anti (sf := sf) (fun f hf => (h.fan f hf).1) i (show q ≤ q' by omega))
  refine ⟨fun q q' hq => (hm q q' hq).1, fun q q' hq => (hm q q' hq).2, fun q => ?_⟩
  have bf := fsum_bd h sf (fa.zip sf).length i q
  rw [List.take_of_length_le (Nat.le_refl _)] at bf
  have s0 : 0 ≤ q * q := by
    by_cases c : 0 ≤ q
    · exact Int.mul_nonneg c c
    · have := Int.mul_nonneg (show 0 ≤ -q by omega) (show 0 ≤ -q by omega); rwa [sq_neg] at this
  have m := Int.mul_le_mul_of_nonneg_right r2 s0
  unfold drop drp
  split <;> (simp only; omega)
end Go.Vi.B
/- Consequences for what is made: how it opens, and its limits. -/
namespace Go.Vi.A
set_option linter.unusedVariables false
abbrev roZ : Ro := (0, 0, 0, 0, false, true, (0, 0), (0, 0))
theorem open_of {pl : List Pl} {ro : List Ro} {fa : List Fa} {dr : List Do} {sf sd : List Int} (ha : airE pl ro fa dr = 0) (hs : fitE fa dr sf sd = 0) {i : Int} (hi : 0 ≤ i) {r : Ro} (hr : ro[i.toNat]? = some r) : Go.Vi.B.openB pl ro fa dr sf sd i = !r.2.2.2.2.2.1 := by
  have hl := idx hr
  unfold Go.Vi.B.openB
  have e : rightE pl ro fa dr sf sd = 0 := by unfold rightE; rw [thn_zero]; exact ⟨ha, hs⟩
  rw [e, getD_eq hr, decide_eq_true (show i ≥ 0 by omega), decide_eq_true (show i < (ro.length : Int) by omega)]; rfl
theorem drop_of {pl : List Pl} {ro : List Ro} {fa : List Fa} {dr : List Do} {sf sd : List Int} (ha : airE pl ro fa dr = 0) (hs : fitE fa dr sf sd = 0) {i : Int} (hi : 0 ≤ i) {r : Ro} (hr : ro[i.toNat]? = some r) (hc : r.2.2.2.2.2.1 = false) {q : Int} (h0 : -1048577 ≤ q) (h1 : q ≤ 1048577) :
    Go.Vi.B.dropS pl ro fa dr sf sd i q = drop (dr.zip sd) (fa.zip sf) i r q := by
  unfold Go.Vi.B.dropS
  rw [open_of ha hs hi hr, hc, getD_eq hr]
  simp only [Bool.not_false, if_true]
  rw [if_neg (by omega), if_neg (by omega)]
theorem flow_of {pl : List Pl} {ro : List Ro} {fa : List Fa} {dr : List Do} {sf sd : List Int} (ha : airE pl ro fa dr = 0) (hs : fitE fa dr sf sd = 0) {i : Int} (hi : 0 ≤ i) {r : Ro} (hr : ro[i.toNat]? = some r) (hc : r.2.2.2.2.2.1 = false) (p : Int) :
    Go.Vi.B.flowS pl ro fa dr sf sd i p = (fLow (drop (dr.zip sd) (fa.zip sf) i r) p, fHigh (drop (dr.zip sd) (fa.zip sf) i r) p) := by
  unfold Go.Vi.B.flowS
  rw [open_of ha hs hi hr, hc, getD_eq hr]; rfl
theorem closed_of {pl : List Pl} {ro : List Ro} {fa : List Fa} {dr : List Do} {sf sd : List Int} (ha : airE pl ro fa dr = 0) (hs : fitE fa dr sf sd = 0) {i : Int} (hi : 0 ≤ i) {r : Ro} (hr : ro[i.toNat]? = some r) (hc : r.2.2.2.2.2.1 = true) (q : Int) :
    Go.Vi.B.dropS pl ro fa dr sf sd i q = (0, 0) ∧ Go.Vi.B.flowS pl ro fa dr sf sd i q = (0, 0) := by
  unfold Go.Vi.B.dropS Go.Vi.B.flowS
  rw [open_of ha hs hi hr, hc]; exact ⟨rfl, rfl⟩
/-- The parts of a state that fits. -/
structure StOk (pl : List Pl) (ro : List Ro) (dz : DS) (fz : FS) (xp xq : List Int) : Prop where
  lp : xp.length = pl.length
  lq : xq.length = ro.length
  pr : ferr prE 0 xp = 0
  fl : ferr flE 0 xq = 0
  clo : ∀ (j : Nat) r q, ro[j]? = some r → xq[j]? = some q → r.2.2.2.2.2.1 = true → q = 0
  dro : ∀ (j : Nat) r q, ro[j]? = some r → xq[j]? = some q → r.2.2.2.2.2.1 = false → (drop dz fz j r q).1 ≤ xp.getD r.1.toNat 0 - xp.getD r.2.1.toNat 0 ∧ xp.getD r.1.toNat 0 - xp.getD r.2.1.toNat 0 ≤ (drop dz fz j r q).2
  sur : ∀ (j : Nat) p, pl[j]? = some p → p.2 = true → xp.getD j 0 = 0
  net : ∀ (j : Nat) p, pl[j]? = some p → p.2 = false → netF (ro.zip xq) j = 0
theorem StOk.of {pl : List Pl} {ro : List Ro} {dz : DS} {fz : FS} {xp xq : List Int} (h : stE pl ro dz fz xp xq = 0) : StOk pl ro dz fz xp xq := by
  unfold stE at h
  split at h
  · split at h
    · rw [thn_zero, thn_zero, thn_zero, thn_zero] at h
      obtain ⟨h1, h2, h3, h4, h5⟩ := h
      rw [ferr_zero (f := cloE xq)] at h3
      rw [ferr_zero (f := sumE (ro.zip xq) xp)] at h4
      rw [ferr_zero (f := droE dz fz xp xq)] at h5
      refine ⟨by omega, by omega, h1, h2, fun j r q hr hq hc => ?_, fun j r q hr hq hc => ?_, fun j p hp hs => ?_, fun j p hp hs => ?_⟩
      · have := h3 j r hr
        unfold cloE at this
        rw [Nat.zero_add, if_pos hc, getD_eq hq] at this
        split at this
        · assumption
        · exact absurd this (by decide)
      · have := h5 j r hr
        unfold droE at this
        rw [Nat.zero_add, hc, if_neg (by decide), getD_eq hq, outE_zero] at this
        exact this
      · have := h4 j p hp
        unfold sumE at this
        rw [Nat.zero_add, if_pos hs] at this
        split at this
        · assumption
        · exact absurd this (by decide)
      · have := h4 j p hp
        unfold sumE at this
        rw [Nat.zero_add, hs, if_neg (by decide)] at this
        split at this
        · assumption
        · exact absurd this (by decide)
    · exact absurd h (by decide)
  · exact absurd h (by decide)
/-- At the limits of flows the pressures of what is made are far away. -/
theorem MadeOk.far {pl : List Pl} {ro : List Ro} {fa : List Fa} {dr : List Do} {sf sd xp xq : List Int} (h : MadeOk pl ro fa dr sf sd xp xq) (sf' sd' : List Int) (i : Int) {r : Ro} (hr : r ∈ ro) :
    (drop (dr.zip sd') (fa.zip sf') i r (-1048577)).2 ≤ -1000000000000 ∧ 1000000000000 ≤ (drop (dr.zip sd') (fa.zip sf') i r 1048577).1 := by
  have ha := AirOk.of h.air
  obtain ⟨r1, r2, r3⟩ := Go.Vi.B.rOf_bd ha sd' i hr
  have hl := h.lift r hr
  have bf : ∀ q, -6000 ≤ (fsum (fa.zip sf') i q).1 ∧ (fsum (fa.zip sf') i q).1 ≤ (fsum (fa.zip sf') i q).2 ∧ (fsum (fa.zip sf') i q).2 ≤ 6000 := fun q => by
    have := sumS_bd (lo := -3000) (hi := 3000) (by omega) (by omega) (((fa.zip sf').filter fun x => decide (x.1.1 = i)).map fun x => sure x.1.2.2.2 x.1.2.1 x.2 q) 2 (fun y hy => by
      obtain ⟨x, hx, rfl⟩ := List.mem_map.1 hy
      have hx := (List.of_mem_zip (List.mem_filter.1 hx).1).1
      have hp := h.pts _ hx
      have := hp.f1 0 (by have := hp.ne; omega)
      exact sure_max (ha.fan _ hx).1 this.2 (by omega) _ _ _) (by
      have := List.length_filter_le (fun x : Fa × Int => decide (x.1.1 = i)) (fa.zip sf')
      have a := h.nfa
      simp only [List.length_map, List.length_zip] at this ⊢; omega)
    unfold A.fsum A.bsum; omega
  have b1 := bf (-1048577); have b2 := bf 1048577
  have m1 := Int.mul_le_mul_of_nonneg_right r1 (show (0 : Int) ≤ 1099513724929 by omega)
  unfold drop drp
  rw [if_pos (by omega), if_neg (by omega)]
  simp only [show ((-1048577 : Int) * -1048577) = 1099513724929 by decide, show ((1048577 : Int) * 1048577) = 1099513724929 by decide]
  omega
end Go.Vi.A
/- minecontrol/minecontrollaw09.BranchHolds -/
namespace Go.Vi.B
open Go.Proofs
set_option linter.unusedVariables false
set_option maxRecDepth 100000
abbrev F8.i : Sh := [(0, .one (.lst .pin 5 (.int .u8))), (2, .one .i), (4, .one .i)]
abbrev F8.o0 : Sh := [(0, .one .bool)]
noncomputable def F8.l3 {β : Type} (N : Nat) : Nat → Int → Int → Bool → (List Pl) → (List Ro) → (List Fa) → (List Do) → (List Int) → (List Int) → (List Int) → (List Int) → Int → Int → (Bool → Option β) → (Int → Int → Bool → List Pl → List Ro → List Fa → List Do → List Int → List Int → List Int → List Int → Int → Int → Bool → Option β) → Option β
 | 0, _, _, _, _, _, _, _, _, _, _, _, _, _, _, _ => none
 | n + 1, v0, v1, v2, v3, v4, v5, v6, v7, v8, v9, v10, v11, v12, k0, k1 =>
  bl (v12 < v11) (k1 v0 v1 v2 v3 v4 v5 v6 v7 v8 v9 v10 v11 v12 (decide (v12 < v11))) <|
  ck (0 ≤ v12) <|
  ge (v4[v12.toNat]?) fun _ =>
  ge (v4[v12.toNat]?) fun x2 =>
  ck (0 ≤ x2.1) <|
  ge (v9[x2.1.toNat]?) fun x3 =>
  ck (0 ≤ x2.2.1) <|
  ge (v9[x2.2.1.toNat]?) fun x4 =>
  F25.C N v3 v4 v5 v6 v7 v8 v12 (w (x3 - x4)) fun r5 r6 =>
  ck (0 ≤ v12) <|
  ge (v10[v12.toNat]?) fun x7 =>
  br (x7 < r5) (k0 false) <|
  ck (0 ≤ v12) <|
  ge (v10[v12.toNat]?) fun x8 =>
  br (x8 > r6) (k0 false) <|
  F8.l3 N n v0 v1 v2 v3 v4 v5 v6 v7 v8 v9 v10 v11 (w (v12 + 1)) k0 k1
noncomputable def F8.K {β : Type} (N : Nat) (a0 : List Int) (a1 a2 : Int) (k0 : Bool → Option β) : Option β :=
 F10.C N a0 fun r1 r2 =>
 F11.C N r1 r2 fun r3 r4 r5 r6 r7 r8 r9 r10 _ _ =>
 F8.l3 N N a1 a2 false r5 r6 r7 r8 r9 r10 r3 r4 (r6.length : Int) 0 (fun z13 => k0 z13) fun z14 z15 _ z17 z18 z19 z20 z21 z22 _ _ _ _ _ =>
 br ((z18.length : Int) = 0) (
  F16.C N fun r28 =>
  k0 r28) <|
 F22.C N z14 (z18.length : Int) fun r29 =>
 ck (0 ≤ r29) <|
 ge (z18[r29.toNat]?) fun _ =>
 ge (z18[r29.toNat]?) fun _ =>
 ge (z18[r29.toNat]?) fun x32 =>
 br (x32.2.2.2.2.2.1) (
  F16.C N fun r33 =>
  k0 r33) <|
 F22.C N z15 200000 fun r34 =>
 F25.C N z17 z18 z19 z20 z21 z22 r29 (w (r34 - 100000)) fun r35 r36 =>
 F23.C N z17 z18 z19 z20 z21 z22 r29 r35 fun _ r38 =>
 bl (r38 ≤ (w (r34 - 100000))) (k0 false) <|
 F23.C N z17 z18 z19 z20 z21 z22 r29 (w (r35 + 1)) fun _ r40 =>
 bl (r40 > (w (r34 - 100000))) (k0 false) <|
 F23.C N z17 z18 z19 z20 z21 z22 r29 r36 fun r41 _ =>
 bl (r41 ≥ (w (r34 - 100000))) (k0 false) <|
 F23.C N z17 z18 z19 z20 z21 z22 r29 (w (r36 - 1)) fun r43 _ =>
 bl (r43 < (w (r34 - 100000))) (k0 false) <|
 F16.C N fun r45 =>
 k0 r45
noncomputable def F8.fx : Fx := ⟨Try.prog, [], [10], [(0,[0,1,2,6]),(1,[1,2,6,7,8,9]),(2,[1,2,6,7,8,9,25,26,27]),(3,[1,2,6,7,8,9,25,26,27,28]),(4,[1,2,6,7,8,9,10,11,25,26,27]),(5,[1,2,6,7,8,9,10,12,25,26,27]),(6,[1,2,6,7,8,9,25,26,27,66]),(7,[6]),(8,[1,2,6,7,8,9,25,26,27]),(9,[1,2,7,8,72]),(10,[6]),(11,[2,7,8,13]),(12,[2,7,8,13,86]),(13,[6]),(14,[7,8,13,14]),(15,[7,8,13,14,15]),(16,[6])], 143, []⟩
noncomputable def F8.cs (N : Nat) : List (Ctr Try.prog) := [F10.X N, F11.X N, F25.X N, F16.X N, F22.X N, F23.X N]
abbrev F8.s3 : Sh := [(2, .one .i), (4, .one .i), (12, .one .bool), (14, .one (.addr 7 0)), (15, .slot false [.lst .own 70 kd1, .lst .own 64 kd8, .lst .own 44 kd11, .lst .own 46 kd13]), (16, .one (.addr 8 0)), (17, .slot false [.lst .own 3 .i, .lst .own 3 .i]), (18, .one (.addr 9 0)), (19, .slot false [.lst .frz 3 .i, .lst .frz 3 .i]), (50, .one (.view 7 1)), (52, .one .i), (54, .one .i)]
abbrev F8.e3_0 : Sh := [(12, .one .bool)]
abbrev F8.e3_1 : Sh := [(2, .one .i), (4, .one .i), (12, .one .bool), (14, .one (.addr 7 0)), (15, .slot false [.lst .own 70 kd1, .lst .own 64 kd8, .lst .own 44 kd11, .lst .own 46 kd13]), (16, .one (.addr 8 0)), (17, .slot false [.lst .own 3 .i, .lst .own 3 .i]), (18, .one (.addr 9 0)), (19, .slot false [.lst .frz 3 .i, .lst .frz 3 .i]), (50, .one (.view 7 1)), (52, .one .i), (54, .one .i), (56, .one .bool)]
noncomputable def F8.X3 (N : Nat) : LpC Try.prog F8.fx := mkL (F8.cs N) [] ((loopsOf (bodyOf Try.f8)).getD 0 .skip) 3 (by kernel_rfl) (by kernel_rfl) (by kernel_rfl) F8.s3 (fun n x k => F8.l3 N n x.1 x.2.1 x.2.2.1 x.2.2.2.1 x.2.2.2.2.1 x.2.2.2.2.2.1 x.2.2.2.2.2.2.1 x.2.2.2.2.2.2.2.1 x.2.2.2.2.2.2.2.2.1 x.2.2.2.2.2.2.2.2.2.1 x.2.2.2.2.2.2.2.2.2.2.1 x.2.2.2.2.2.2.2.2.2.2.2.1 x.2.2.2.2.2.2.2.2.2.2.2.2.1 (fun r0 => k (.ret) (Sh.mk F8.e3_0 (r0, ()))) (fun r0 r1 r2 r3 r4 r5 r6 r7 r8 r9 r10 r11 r12 r13 => k (.exit 0) (Sh.mk F8.e3_1 (r0, r1, r2, r3, r4, r5, r6, r7, r8, r9, r10, r11, r12, r13, ())))) (fun _ _ => rfl) (fun _ _ _ => by kernel_rfl) N
noncomputable def F8.C {β : Type} (N : Nat) := (Sealed fun β => @F8.K β).1 β N
theorem F8.C_eq {β : Type} (N : Nat) : @F8.C β N = @F8.K β N := congrFun (congrFun (Sealed fun β => @F8.K β).2 β) N
noncomputable def F8.X (N : Nat) : Ctr Try.prog := mkF 8 Try.f8 F8.fx (F8.cs N) [F8.X3 N] F8.i (fun x k => F8.C N x.1 x.2.1 x.2.2.1 (fun r0 => k (Sh.mk F8.o0 (r0, ())))) (by intros; rw [F8.C_eq]; kernel_rfl) (by kernel_rfl) (by kernel_rfl) (by kernel_rfl) (by kernel_rfl) rfl (by kernel_rfl) rfl (by kernel_rfl) (by kernel_rfl) (by kernel_rfl) (.dead _ 8) rfl
end Go.Vi.B
/- BranchHolds, its residual: true. -/
namespace Go.Vi.B
open Go.Proofs Go.Vi.A
set_option linter.unusedVariables false
set_option linter.unusedSimpArgs false
variable {β : Type} {N : Nat} (hN : 1000 ≤ N)
include hN in
theorem branchHolds {a0 : List Int} (h0 : ∀ x ∈ a0, 0 ≤ x ∧ x ≤ 255) (a1 a2 : Int) (k : Bool → Option β) : F8.C N a0 a1 a2 k = k true := by
  obtain ⟨l, c0, e0⟩ := draw_New (β := β) (N := N) h0
  obtain ⟨pl, ro, fa, dr, sf, sd, xp, xq, b3, c1, m1, e1⟩ := draw_Made (β := β) hN c0
  have n1 := m1.nro; have n2 := m1.nfa; have n3 := m1.ndr
  have hair := m1.air; have hfit := m1.fit
  have ha := AirOk.of hair
  have st := StOk.of m1.st
  have l1 := st.lp; have l2 := st.lq
  rw [F8.C_eq]; unfold F8.K
  rw [e0, e1]
  have key : ∀ K, F8.l3 N N a1 a2 false pl ro fa dr sf sd xp xq (ro.length : Int) 0 (fun z13 => k z13) K = K a1 a2 false pl ro fa dr sf sd xp xq (ro.length : Int) (ro.length : Int) false := by
    intro K
    obtain ⟨_, _, e⟩ := lfor (σ := Unit) (len := ro.length) (L := fun n j _ => F8.l3 N n a1 a2 false pl ro fa dr sf sd xp xq (ro.length : Int) (j : Int) (fun z => k z) K) (k := fun _ => K a1 a2 false pl ro fa dr sf sd xp xq (ro.length : Int) (ro.length : Int) false) (fun _ _ => True)
      (fun n s _ => by simp only [F8.l3, res, Int.lt_irrefl, if_false, decide_false])
      (fun j s hj _ => ⟨(), trivial, fun n => by
        obtain ⟨r, hr⟩ := getl hj
        obtain ⟨q, hq⟩ := getl (show j < xq.length by omega)
        have hR := ha.road r (List.mem_of_getElem? hr)
        obtain ⟨f0, f1⟩ := hR.frm; obtain ⟨t0, t1⟩ := hR.to
        obtain ⟨u, hu⟩ := geti (xs := xp) f0 (by omega)
        obtain ⟨v, hv⟩ := geti (xs := xp) t0 (by omega)
        have bu := pr_bd st.pr hu; have bv := pr_bd st.pr hv; have bq := fl_bd st.fl hq
        simp only [F8.l3, res, Int.toNat_natCast, hr, hq, hu, hv, ge_some, branch_Flow hN, w_succ (show j < 4000000000 by omega), f0, t0, Int.natCast_nonneg, if_true, w_id (x := u - v) (by omega) (by omega)]
        rw [if_pos (by omega)]
        have hr' : ro[((j : Nat) : Int).toNat]? = some r := by rw [Int.toNat_natCast]; exact hr
        cases hc : r.2.2.2.2.2.1 with
        | true =>
          rw [(closed_of hair hfit (Int.natCast_nonneg j) hr' hc _).2, st.clo j r q hr hq hc]
          simp only [Int.lt_irrefl, gt_iff_lt, if_false]
        | false =>
          have g := st.dro j r q hr hq hc
          rw [getD_eq hu, getD_eq hv] at g
          have hris := drop_ris ha sf sd j (List.mem_of_getElem? hr)
          have g1 := fLow_le hris (p := u - v) (q := q) (by omega) g.2
          have g2 := le_fHigh hris (p := u - v) (q := q) (by omega) g.1
          rw [flow_of hair hfit (Int.natCast_nonneg j) hr' hc]
          simp only
          rw [if_neg (by omega), if_neg (by omega)]⟩) 0 () N trivial (by omega) (by omega)
    exact e
  refine (key _).trans ?_
  simp only [res, awake hN]
  by_cases c : (ro.length : Int) = 0
  · rw [if_pos c]
  rw [if_neg c]
  obtain ⟨i, x4, _, e4⟩ := draw_Mod (β := β) (N := N) a1 (ro.length : Int) (by omega)
  obtain ⟨t, x6, _, e6⟩ := draw_Mod (β := β) (N := N) a2 200000 (by omega)
  have i0 := x4.lo; have i1 := x4.hi (by omega); have t0 := x6.lo; have t1 := x6.hi (by omega)
  obtain ⟨r, hr⟩ := geti (xs := ro) i0 i1
  rw [e4, if_pos i0]
  simp only [hr, ge_some, e6, branch_Drop hN, branch_Flow hN]
  cases hc : r.2.2.2.2.2.1 with
  | true => simp only [res]
  | false =>
    simp only [res]
    have hris := drop_ris ha sf sd i (List.mem_of_getElem? hr)
    obtain ⟨far1, far2⟩ := m1.far sf sd i (List.mem_of_getElem? hr)
    obtain ⟨a1', a2', a3', a4'⟩ := fLow_spec (drop (dr.zip sd) (fa.zip sf) i r) (t - 100000)
    obtain ⟨b1', b2', b3', b4'⟩ := fHigh_spec (drop (dr.zip sd) (fa.zip sf) i r) (t - 100000)
    have le1 := hris.le (-1048577); have le2 := hris.le 1048577
    rw [w_id (x := t - 100000) (by omega) (by omega), flow_of hair hfit i0 hr hc]
    simp only
    rw [w_id (x := fLow _ _ + 1) (by omega) (by omega), w_id (x := fHigh _ _ - 1) (by omega) (by omega)]
    rw [drop_of hair hfit i0 hr hc (by omega) (by omega), drop_of hair hfit i0 hr hc (by omega) (by omega), drop_of hair hfit i0 hr hc (by omega) (by omega), drop_of hair hfit i0 hr hc (by omega) (by omega)]
    have g1 : (drop (dr.zip sd) (fa.zip sf) i r (fLow (drop (dr.zip sd) (fa.zip sf) i r) (t - 100000))).2 ≤ t - 100000 := by
      rcases a3' with e | e
      · rw [e]; omega
      · exact e
    have g2 : (drop (dr.zip sd) (fa.zip sf) i r (fLow (drop (dr.zip sd) (fa.zip sf) i r) (t - 100000) + 1)).2 > t - 100000 := by
      rcases a4' with e | e
      · rw [e]; show _ < (drop (dr.zip sd) (fa.zip sf) i r 1048577).2; omega
      · exact e
    have g3 : (drop (dr.zip sd) (fa.zip sf) i r (fHigh (drop (dr.zip sd) (fa.zip sf) i r) (t - 100000))).1 ≥ t - 100000 := by
      rcases b3' with e | e
      · rw [e]; omega
      · exact e
    have g4 : (drop (dr.zip sd) (fa.zip sf) i r (fHigh (drop (dr.zip sd) (fa.zip sf) i r) (t - 100000) - 1)).1 < t - 100000 := by
      rcases b4' with e | e
      · rw [e]; show (drop (dr.zip sd) (fa.zip sf) i r (-1048577)).1 < _; omega
      · exact e
    rw [if_pos g1, if_pos g2, if_pos g3, if_pos g4]
end Go.Vi.B
namespace Go.Proofs.Ytbheofpanlpnkaa.branchHolds
open Go.ChangeShapes Go.WideShapes Go.ChangeAt Go.RowKit Go.Vi Go.Vi.A Go.Vi.B
set_option linter.unusedVariables false
theorem own : ownKnob Try.prog.godebug = none := by kernel_rfl
theorem laidOut : laidOutB Try.prog = true := by kernel_rfl
theorem o5 : Opn Try.prog 5 (.int .u8) := Opn.int Try.underlying5 (by kernel_rfl)
theorem o22 : Opn Try.prog 22 (.fz 5 (.int .u8)) := Opn.slice Try.underlying22 (by kernel_rfl) o5
set_option maxHeartbeats 2000000 in
set_option maxRecDepth 100000 in
theorem lifted (os : Os) (started : os.Started) (H : Type) (enc : TypeId × Value → H) :
    ReturnsInHanded {} Try.checked os 8 .any (Rows.branchHoldsSpec.pre6 enc Try.prog Try.f8 Rows.branchHoldsRow.domain false) (Rows.branchHoldsSpec.post enc Try.prog Try.f8 false true false false) := by
  refine returnsInHanded_of_change_sized (C := Try.checked) own started (by kernel_rfl) Try.func8
    (ChangeSpec.witness6 (enc := enc) (C := Try.checked) false ⟨#[], #[.slice none 0 0, .int .i64 0, .int .i64 0], []⟩ 8 (by kernel_rfl) (by kernel_rfl) (by kernel_rfl) (by kernel_rfl)) ?_
  intro W base args ds gs before hval0 hW hcnd hsz0 _
  have hval : ∀ (j : Nat) t v, Try.f8.params[j]? = some t → args[j]? = some v → Value.okWide Try.prog W .any base t v := hval0
  have hW' := hW
  obtain ⟨p, q, hA0, hV, rfl, hfz, hnd⟩ := hW
  have hA : DataW.TrodAll enc Try.prog W 0 (fun _ => true) true Try.f8.params.toList args.toList ds p := hA0
  rw [Try.params8] at hA hval
  obtain ⟨v0, vs0, d0, ds0, p0, q0, hargs, rfl, rfl, h0, r0⟩ := trodAll_cons hA
  obtain ⟨v1, vs1, d1, ds1, p1, q1, rfl, rfl, rfl, h1, r1⟩ := trodAll_cons r0
  obtain ⟨v2, vs2, d2, ds2, p2, q2, rfl, rfl, rfl, h2, r2⟩ := trodAll_cons r1
  obtain ⟨rfl, rfl, rfl⟩ := trodAll_nil r2
  obtain rfl : args = #[v0, v1, v2] := by cases args; simp_all
  obtain ⟨rfl, rfl⟩ := trodVars_none hV
  have k0 := h0
  have lt0 : ∀ x ∈ p0, x.block < W.heap.size := by obtain ⟨m, hm⟩ := k0; exact DataW.trod_lt m _ _ _ hm
  have k1 := h1
  have lt1 : ∀ x ∈ p1, x.block < W.heap.size := by obtain ⟨m, hm⟩ := k1; exact DataW.trod_lt m _ _ _ hm
  have k2 := h2
  have lt2 : ∀ x ∈ p2, x.block < W.heap.size := by obtain ⟨m, hm⟩ := k2; exact DataW.trod_lt m _ _ _ hm
  obtain ⟨A0, len0, cap0, rfl⟩ := okWide_slice Try.underlying22 (hval 0 22 v0 rfl rfl)
  obtain ⟨a0, f0, rp0, _, w0⟩ := o22.arg h0
  obtain ⟨a1, rfl, rfl, rfl, w1⟩ := open_int Try.underlying3 (hval 1 3 v1 rfl rfl) h1
  obtain ⟨a2, rfl, rfl, rfl, w2⟩ := open_int Try.underlying3 (hval 2 3 v2 rfl rfl) h2
  clear hA0 hval0 hsz0
  have g : GoF Try.prog 8 (mkEnt 0 [.one (.lst .pin 5 (.int .u8) a0), .one (.sc (.int .i64 a1)), .one (.sc (.int .i64 a2))]) [(0, .one (.sc (.bool true)))] := (F8.X 1000).ok _ _ ((by kernel_rfl : (F8.X 1000).run (mkEnt 0 [.one (.lst .pin 5 (.int .u8) a0), .one (.sc (.int .i64 a1)), .one (.sc (.int .i64 a2))]) some = F8.C 1000 a0 a1 a2 (fun r0 => some (Sh.mk F8.o0 (r0, ())))).trans (branchHolds (Nat.le_refl _) (fun x hx => wf_u8 (w0.2 x hx)) a1 a2 _))
  refine (g.lawE (args := [.slice A0 len0 cap0, .int .i64 a1, .int .i64 a2]) ⟨VOk.list (by decide) rp0, ⟨VOk.int a1, ⟨VOk.int a2, trivial⟩⟩⟩).mono fun e W' ⟨he, bel⟩ => ?_
  subst he
  exact ⟨_, rfl, _, _, _, [], _, [], hW', trodAll_mk1 (shut_bool Try.underlying4 _), (trodAll_cons_mk (Below.trod laidOut (by kernel_rfl) (of_decide_eq_true (by kernel_rfl)) k0 bel lt0) (trodAll_cons_mk (Below.trod laidOut (by kernel_rfl) (of_decide_eq_true (by kernel_rfl)) k1 bel lt1) (trodAll_cons_mk (Below.trod laidOut (by kernel_rfl) (of_decide_eq_true (by kernel_rfl)) k2 bel lt2) trodAll_mk0))), rfl, bel.frame _, fun h => by cases h⟩
theorem over : Rows.branchHoldsRow.holds Try.pinned (OpenSpec.ofChange Rows.branchHoldsSpec) :=
  OpenClaim.holds_of_wide 8 Try.f8 rfl rfl rfl rfl rfl rfl rfl ⟨rfl, rfl, rfl, rfl, rfl⟩ rfl rfl rfl rfl rfl (by kernel_rfl) Try.func8 (by kernel_rfl)
    (of_decide_eq_true (by kernel_rfl)) (by unfold Func.isWrapper; first | (rw [if_pos (by decide +kernel)]; kernel_rfl) | (rw [if_neg (by decide +kernel)]; exact ⟨rfl, rfl⟩))
    (fun os started H enc _ => lifted os started H enc)
theorem proved : Rows.BranchHoldsSaid := over
end Go.Proofs.Ytbheofpanlpnkaa.branchHolds
namespace Go.Proofs.Ytbheofpanlpnkaa
/-- The row, under a short name, for the claim. -/
theorem branchHolds_holds : Rows.BranchHoldsSaid := branchHolds.proved
end Go.Proofs.Ytbheofpanlpnkaa
