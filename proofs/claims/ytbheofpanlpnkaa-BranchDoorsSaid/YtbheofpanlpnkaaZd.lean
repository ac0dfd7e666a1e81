/- Lemmas for the proofs of this seat's statements, part 4; each holds without conditions beyond its own premises. -/
import Derived.Test.YtbheofpanlpnkaaZc
/- minecontrol/branch.Flow -/
namespace Go.Vi.B
open Go.Proofs
set_option linter.unusedVariables false
set_option maxRecDepth 100000
abbrev F25.i : Sh := [(0, .agg [.lst .frz 70 kd1, .lst .frz 64 kd8, .lst .frz 44 kd11, .lst .frz 46 kd13]), (2, .agg [.lst .frz 3 .i, .lst .frz 3 .i]), (4, .one .i), (6, .one .i)]
abbrev F25.o0 : Sh := [(0, .agg [.i, .i])]
noncomputable def F25.K {β : Type} (N : Nat) (a0 : List Pl) (a1 : List Ro) (a2 : List Fa) (a3 : List Do) (a4 a5 : List Int) (a6 a7 : Int) (k0 : Int → Int → Option β) : Option β :=
 F42.C N a0 a1 a2 a3 a4 a5 a6 (fun r1 r2 r3 r4 r5 r6 r7 r8 r9 r10 r11 r12 r13 =>
  br (!r12) (k0 0 0) <|
  F46.C N r1 r2 r3 r4 r5 r6 r7 r8 r9 r10 r11 r13 a7 fun r14 =>
  F47.C N r1 r2 r3 r4 r5 r6 r7 r8 r9 r10 r11 r13 a7 fun r15 =>
  k0 r14 r15) fun r16 r17 r18 r19 r20 r21 r22 r23 r24 r25 r26 r27 r28 =>
 br (!r28) (k0 0 0) <|
 F46.C N r16 r17 r18 r19 r20 r21 r22 r23 r24 r25 r26 r27 a7 fun r29 =>
 F47.C N r16 r17 r18 r19 r20 r21 r22 r23 r24 r25 r26 r27 a7 fun r30 =>
 k0 r29 r30
noncomputable def F25.fx : Fx := ⟨Try.prog, [8], [], [(0,[2,3,4,5,8]),(1,[3,8,9,10]),(2,[3,8,9,19]),(3,[8]),(4,[8])], 28, []⟩
noncomputable def F25.cs (N : Nat) : List (Ctr Try.prog) := [F42.X N, F46.X N, F47.X N]
noncomputable def F25.C {β : Type} (N : Nat) := (Sealed fun β => @F25.K β).1 β N
theorem F25.C_eq {β : Type} (N : Nat) : @F25.C β N = @F25.K β N := congrFun (congrFun (Sealed fun β => @F25.K β).2 β) N
noncomputable def F25.X (N : Nat) : Ctr Try.prog := mkF 25 Try.f25 F25.fx (F25.cs N) [] F25.i (fun x k => F25.C N x.1 x.2.1 x.2.2.1 x.2.2.2.1 x.2.2.2.2.1 x.2.2.2.2.2.1 x.2.2.2.2.2.2.1 x.2.2.2.2.2.2.2.1 (fun r0 r1 => k (Sh.mk F25.o0 (r0, r1, ())))) (by intros; rw [F25.C_eq]; kernel_rfl) (by kernel_rfl) (by kernel_rfl) (by kernel_rfl) (by kernel_rfl) rfl (by kernel_rfl) rfl (by kernel_rfl) (by kernel_rfl) (by kernel_rfl) (.dead _ 25) rfl
end Go.Vi.B
/- The pipes of a net: what Make makes. -/
namespace Go.Vi.A
/-- A list told by its indexes. -/
def tab {α : Type} (m : Nat) (f : Nat → α) : List α := (List.range m).map f
theorem tab_len {α : Type} (m : Nat) (f : Nat → α) : (tab m f).length = m := by simp [tab]
theorem tab_get {α : Type} {m i : Nat} {f : Nat → α} (h : i < m) : (tab m f)[i]? = some (f i) := by simp [tab, h]
theorem tab_rep {α : Type} (m : Nat) (x : α) : List.replicate m x = tab m fun _ => x := by
  unfold tab; exact List.ext_getElem? fun k => by
    by_cases h : k < m
    · simp [h]
    · simp [h]
theorem tab_set {α : Type} {m i : Nat} {f : Nat → α} (g : Nat → α) {x : α} (h : g i = x) (h' : ∀ k, k < m → k ≠ i → g k = f k) : (tab m f).set i x = tab m g := by
  refine List.ext_getElem? fun k => ?_
  rw [List.getElem?_set]
  by_cases c : i = k
  · subst c
    rw [if_pos rfl, tab_len]
    by_cases d : i < m
    · rw [if_pos d, tab_get d, h]
    · rw [if_neg d, List.getElem?_eq_none (by rw [tab_len]; omega)]
  · rw [if_neg c]
    by_cases d : k < m
    · rw [tab_get d, tab_get d, h' k d (fun e => c e.symm)]
    · rw [List.getElem?_eq_none (by rw [tab_len]; omega), List.getElem?_eq_none (by rw [tab_len]; omega)]
theorem tab_congr {α : Type} {m : Nat} {f g : Nat → α} (h : ∀ k, k < m → f k = g k) : tab m f = tab m g := by
  unfold tab; exact List.map_congr_left fun k hk => h k (List.mem_range.1 hk)
/-- The open roads, with their numbers. -/
def pipesF (dz : DS) (fz : FS) : Nat → List Ro → List Pi
  | _, [] => []
  | i, r :: t => if r.2.2.2.2.2.1 = true then pipesF dz fz (i + 1) t else pOf dz fz i r :: pipesF dz fz (i + 1) t
theorem pipesF_append (dz : DS) (fz : FS) : ∀ (a b : List Ro) (i : Nat), pipesF dz fz i (a ++ b) = pipesF dz fz i a ++ pipesF dz fz (i + a.length) b
  | [], b, i => by simp [pipesF]
  | r :: t, b, i => by
    simp only [List.cons_append, pipesF, pipesF_append dz fz t b (i + 1), List.length_cons, show i + 1 + t.length = i + (t.length + 1) by omega]
    split <;> rfl
theorem pipesF_len (dz : DS) (fz : FS) : ∀ (a : List Ro) (i : Nat), (pipesF dz fz i a).length ≤ a.length
  | [], i => by simp [pipesF]
  | r :: t, i => by
    have := pipesF_len dz fz t (i + 1)
    simp only [pipesF]; split <;> simp only [List.length_cons] <;> omega
/-- Which pipes end at a place. -/
def atF (p : Int) : Nat → List Pi → List Int
  | _, [] => []
  | k, x :: t => if x.1.1 = p ∨ x.1.2.1 = p then (k : Int) :: atF p (k + 1) t else atF p (k + 1) t
theorem atF_append (p : Int) : ∀ (a b : List Pi) (k : Nat), atF p k (a ++ b) = atF p k a ++ atF p (k + a.length) b
  | [], b, k => by simp [atF]
  | x :: t, b, k => by
    simp only [List.cons_append, atF, atF_append p t b (k + 1), List.length_cons, show k + 1 + t.length = k + (t.length + 1) by omega]
    split <;> rfl
theorem atF_len (p : Int) : ∀ (a : List Pi) (k : Nat), (atF p k a).length ≤ a.length
  | [], k => by simp [atF]
  | x :: t, k => by
    have := atF_len p t (k + 1)
    simp only [atF]; split <;> simp only [List.length_cons] <;> omega
theorem blow_take {z : FS} {j : Nat} {x : Fa × Int} (h : z[j]? = some x) (i : Int) : blow (z.take (j + 1)) i = if x.2 = 0 then blow (z.take j) i else if x.1.1 = i then blow (z.take j) i ++ [x] else blow (z.take j) i := by
  unfold blow
  rw [take_snoc h, List.filter_append]
  by_cases c : x.2 = 0
  · simp [c]
  · by_cases d : x.1.1 = i
    · simp [c, d]
    · simp [c, d]
theorem eq?_self : ∀ k : Kd, Kd.eq? k k = some ⟨rfl⟩
  | .int j => by simp [Kd.eq?]
  | .bool => rfl
  | .val => rfl
  | .pair a b => by simp [Kd.eq?, eq?_self a, eq?_self b]
  | .fz e a => by simp [Kd.eq?, eq?_self a]
  | .ow e a => by simp [Kd.eq?, eq?_self a]
theorem ow_put (e : TypeId) (k : Kd) (xs : List k.T) (o : Option (List k.T)) : ofL (.ow e k) (setRange (toL .own (.ow e k) o) 0 [.lst .own e k xs]) = some (some xs) := by
  have h : setRange (toL .own (.ow e k) o) 0 [.lst .own e k xs] = [.lst .own e k xs] := by cases o <;> rfl
  rw [h]
  simp only [ofL, if_true]
  rw [eq?_self]
  rfl
end Go.Vi.A
namespace Go.Vi.B
open Go.Proofs Go.Vi.A
set_option linter.unusedVariables false
set_option linter.unusedSimpArgs false
variable {β : Type} {N : Nat} (hN : 1000 ≤ N)
include hN in
theorem make_doors {pl : List Pl} {ro : List Ro} {fa : List Fa} {dr : List Do} {sf sd : List Int} (h : AirOk pl ro fa dr) (hs : SetOk fa dr sf sd) (fans : List (Option FS)) (K : List Pl → List Ro → List Fa → List Do → List Int → List Int → List Pi → List (Option (List Int)) → List Sp → List (Option FS) → List Do → Int → Int → Bool → Option β) :
    F50.l4 N N pl ro fa dr sf sd [] [] (tab ro.length fun _ => (0, 0)) fans dr (dr.length : Int) 0 K = K pl ro fa dr sf sd [] [] (tab ro.length fun i => dsum (dr.zip sd) i) fans dr (dr.length : Int) (dr.length : Int) false := by
  have hl := h.ndr
  obtain ⟨s, hs', e⟩ := lfor (len := dr.length) (L := fun n j (m : List Sp) => F50.l4 N n pl ro fa dr sf sd [] [] m fans dr (dr.length : Int) (j : Int) K) (k := fun m => K pl ro fa dr sf sd [] [] m fans dr (dr.length : Int) (dr.length : Int) false)
    (fun j m => m = tab ro.length fun i => dsum ((dr.zip sd).take j) i)
    (fun n m hm => by simp only [F50.l4, res, Int.lt_irrefl, if_false, decide_false])
    (fun j m hj hm => by
      obtain ⟨x, hx⟩ := getl hj
      obtain ⟨s, hsj⟩ := getl (show j < sd.length by rw [hs.ld]; exact hj)
      have hd := h.door x (List.mem_of_getElem? hx)
      have bd := dsum_bd h sd j x.1
      have bx := dRest_bd hd.rng s
      have h6 := hd.six
      obtain ⟨q0, q1⟩ := hd.road
      refine ⟨_, rfl, fun n => ?_⟩
      subst hm
      simp only [F50.l4, res, Int.toNat_natCast, hx, hsj, ge_some, w_succ (show j < 4000000000 by omega), door_Rest hN _ _ (show x.2.2.length ≤ 500 by omega)]
      have ex : ((x.1.toNat : Nat) : Int) = x.1 := by omega
      have hi : x.1.toNat < ro.length := by omega
      rw [if_pos (by omega), if_pos (by omega), if_pos (by omega), if_pos q0, tab_get hi]
      simp only [ge_some, ex, if_pos q0, List.getElem?_set_self (show x.1.toNat < (tab ro.length fun i => dsum ((dr.zip sd).take j) i).length by rw [tab_len]; exact hi), List.set_set]
      rw [w_id (by omega) (by omega), w_id (by omega) (by omega)]
      congr 1
      refine tab_set _ ?_ fun k hk hne => ?_
      · rw [dsum_take (zip_get hx hsj), ex, if_pos rfl]
      · rw [dsum_take (zip_get hx hsj), if_neg (by simp only; omega)]) 0 (tab ro.length fun _ => (0, 0)) N (tab_congr fun k hk => by simp [dsum, sumS]) (by omega) (by omega)
  refine e.trans ?_
  rw [hs', List.take_of_length_le (by rw [List.length_zip]; omega)]
include hN in
theorem make_fans {pl : List Pl} {ro : List Ro} {fa : List Fa} {dr : List Do} {sf sd : List Int} (h : AirOk pl ro fa dr) (hs : SetOk fa dr sf sd) (rs : List Sp) (K : List Pl → List Ro → List Fa → List Do → List Int → List Int → List Pi → List (Option (List Int)) → List Sp → List (Option FS) → List Fa → Int → Int → Bool → Option β) :
    F50.l11 N N pl ro fa dr sf sd [] [] rs (tab ro.length fun _ => some []) fa (fa.length : Int) 0 K = K pl ro fa dr sf sd [] [] rs (tab ro.length fun i => some (blow (fa.zip sf) i)) fa (fa.length : Int) (fa.length : Int) false := by
  have hl := h.nfa
  obtain ⟨s, hs', e⟩ := lfor (len := fa.length) (L := fun n j (m : List (Option FS)) => F50.l11 N n pl ro fa dr sf sd [] [] rs m fa (fa.length : Int) (j : Int) K) (k := fun m => K pl ro fa dr sf sd [] [] rs m fa (fa.length : Int) (fa.length : Int) false)
    (fun j m => m = tab ro.length fun i => some (blow ((fa.zip sf).take j) i))
    (fun n m hm => by simp only [F50.l11, res, Int.lt_irrefl, if_false, decide_false])
    (fun j m hj hm => by
      obtain ⟨x, hx⟩ := getl hj
      obtain ⟨s, hsj⟩ := getl (show j < sf.length by rw [hs.lf]; exact hj)
      obtain ⟨hg, q1⟩ := h.fan x (List.mem_of_getElem? hx)
      have q0 := hg.road
      refine ⟨_, rfl, fun n => ?_⟩
      subst hm
      simp only [F50.l11, res, Int.toNat_natCast, hx, hsj, ge_some, w_succ (show j < 4000000000 by omega)]
      have ex : ((x.1.toNat : Nat) : Int) = x.1 := by omega
      have hi : x.1.toNat < ro.length := by omega
      rw [if_pos (by omega), if_pos (by omega), if_pos (by omega)]
      by_cases c : s = 0
      · rw [if_pos c]
        congr 1
        exact tab_congr fun k hk => by rw [blow_take (zip_get hx hsj), if_pos c]
      · rw [if_neg c, if_pos q0, tab_get hi]
        simp only [ge_some, ex, if_pos q0, List.getElem?_set_self (show x.1.toNat < (tab ro.length fun i => some (blow ((fa.zip sf).take j) i)).length by rw [tab_len]; exact hi), List.set_set]
        rw [if_pos (by omega), ow_put, ge_some, if_pos (by
          have : (blow ((fa.zip sf).take j) x.1).length ≤ 8 := Nat.le_trans (List.length_filter_le _ _) (by rw [List.length_take, List.length_zip]; omega)
          omega)]
        congr 1
        refine tab_set _ ?_ fun k hk hne => ?_
        · rw [blow_take (zip_get hx hsj), ex, if_neg c, if_pos rfl]
        · rw [blow_take (zip_get hx hsj), if_neg c, if_neg (by simp only; omega)]) 0 (tab ro.length fun _ => some []) N (tab_congr fun k hk => by simp [blow]) (by omega) (by omega)
  refine e.trans ?_
  rw [hs', List.take_of_length_le (by rw [List.length_zip]; omega)]
/-- The fans that are left when some roads are done. -/
def fansLeft (fz : FS) (ro : List Ro) (j : Nat) (i : Nat) : Option FS := if i < j ∧ (ro.getD i (0, 0, 0, 0, false, true, (0, 0), (0, 0))).2.2.2.2.2.1 = false then none else some (blow fz i)
include hN in
theorem make_roads {pl : List Pl} {ro : List Ro} {fa : List Fa} {dr : List Do} {sf sd : List Int} (h : AirOk pl ro fa dr) (v0 : List Pi) (v1 : List (Option (List Int)))
    (K : List Pi → List (Option (List Int)) → List Sp → List (Option FS) → List Pi → List (Option (List Int)) → List Ro → Int → Int → Bool → Option β) :
    F50.l18 N N v0 v1 (tab ro.length fun i => dsum (dr.zip sd) i) (tab ro.length fun i => some (blow (fa.zip sf) i)) [] (tab pl.length fun _ => some []) ro (ro.length : Int) 0 K =
    K v0 v1 (tab ro.length fun i => dsum (dr.zip sd) i) (tab ro.length (fansLeft (fa.zip sf) ro ro.length)) (pipesF (dr.zip sd) (fa.zip sf) 0 ro) (tab pl.length fun p => some (atF p 0 (pipesF (dr.zip sd) (fa.zip sf) 0 ro))) ro (ro.length : Int) (ro.length : Int) false := by
  have hl := h.nro
  obtain ⟨s, hs', e⟩ := lfor (len := ro.length) (L := fun n j (m : List (Option FS) × List Pi × List (Option (List Int))) => F50.l18 N n v0 v1 (tab ro.length fun i => dsum (dr.zip sd) i) m.1 m.2.1 m.2.2 ro (ro.length : Int) (j : Int) K)
    (k := fun m => K v0 v1 (tab ro.length fun i => dsum (dr.zip sd) i) m.1 m.2.1 m.2.2 ro (ro.length : Int) (ro.length : Int) false)
    (fun j m => m = (tab ro.length (fansLeft (fa.zip sf) ro j), pipesF (dr.zip sd) (fa.zip sf) 0 (ro.take j), tab pl.length fun p => some (atF p 0 (pipesF (dr.zip sd) (fa.zip sf) 0 (ro.take j)))))
    (fun n m hm => by simp only [F50.l18, res, Int.lt_irrefl, if_false, decide_false])
    (fun j m hj hm => by
      obtain ⟨r, hr⟩ := getl hj
      have hR := h.road r (List.mem_of_getElem? hr)
      obtain ⟨f0, f1⟩ := hR.frm
      obtain ⟨t0, t1⟩ := hR.to
      have hne := hR.ne
      have hrr := hR.rest
      have bd := dsum_bd h sd (dr.zip sd).length j
      rw [List.take_of_length_le (Nat.le_refl _)] at bd
      refine ⟨_, rfl, fun n => ?_⟩
      subst hm
      have hp : pipesF (dr.zip sd) (fa.zip sf) 0 (ro.take (j + 1)) = if r.2.2.2.2.2.1 = true then pipesF (dr.zip sd) (fa.zip sf) 0 (ro.take j) else pipesF (dr.zip sd) (fa.zip sf) 0 (ro.take j) ++ [pOf (dr.zip sd) (fa.zip sf) j r] := by
        rw [take_snoc hr, pipesF_append]
        simp only [pipesF, List.length_take, Nat.zero_add, show min j ro.length = j by omega]
        split <;> simp
      simp only [F50.l18, res, Int.toNat_natCast, hr, ge_some, w_succ (show j < 4000000000 by omega)]
      rw [if_pos (by omega), if_pos (by omega), hp]
      cases hc : r.2.2.2.2.2.1 with
      | true =>
        simp only [res, if_true]
        congr 1
        exact tab_congr fun k hk => by
          unfold fansLeft
          by_cases c : k = j
          · subst c; rw [getD_eq hr, hc]; simp
          · have : k < j ↔ k < j + 1 := by omega
            simp only [this]
      | false =>
        simp only [res, Bool.false_eq_true, if_false]
        have ef : ((r.1.toNat : Nat) : Int) = r.1 := by omega
        have et : ((r.2.1.toNat : Nat) : Int) = r.2.1 := by omega
        have hf : r.1.toNat < pl.length := by omega
        have ht : r.2.1.toNat < pl.length := by omega
        have hlen := pipesF_len (dr.zip sd) (fa.zip sf) (ro.take j) 0
        rw [List.length_take] at hlen
        generalize hP : pipesF (dr.zip sd) (fa.zip sf) 0 (ro.take j) = P at *
        have la := fun p => atF_len p P 0
        simp only [f0, t0, if_true, tab_get hf, ge_some, ef, List.getElem?_set_self (show r.1.toNat < (tab pl.length fun p => some (atF p 0 P)).length by rw [tab_len]; exact hf), List.set_set, ow_put]
        rw [if_pos (by have := la r.1; omega)]
        rw [tab_set (fun p => if p = r.1.toNat then some (atF r.1 0 P ++ [(P.length : Int)]) else some (atF p 0 P)) (if_pos rfl) (fun k hk hn => if_neg hn)]
        simp only [tab_get ht, ge_some, List.getElem?_set_self (show r.2.1.toNat < (tab pl.length fun p => if p = r.1.toNat then some (atF r.1 0 P ++ [(P.length : Int)]) else some (atF (p : Int) 0 P)).length by rw [tab_len]; exact ht), List.set_set, if_neg (show ¬ r.2.1.toNat = r.1.toNat by omega), ow_put, et]
        rw [if_pos (by have := la r.2.1; omega), if_pos (by omega)]
        have hfl : fansLeft (fa.zip sf) ro j j = some (blow (fa.zip sf) j) := by unfold fansLeft; rw [if_neg (by omega)]
        simp only [tab_get hj, ge_some, hfl]
        rw [if_pos (by omega), if_pos (by omega)]
        have e1 : (tab ro.length (fansLeft (fa.zip sf) ro j)).set j none = tab ro.length (fansLeft (fa.zip sf) ro (j + 1)) := tab_set _ (by unfold fansLeft; rw [getD_eq hr, if_pos ⟨by omega, hc⟩]) (fun k hk hn => by
          unfold fansLeft
          have : k < j ↔ k < j + 1 := by omega
          simp only [this])
        have e2 : (tab pl.length fun p => if p = r.1.toNat then some (atF r.1 0 P ++ [(P.length : Int)]) else some (atF (p : Int) 0 P)).set r.2.1.toNat (some (atF r.2.1 0 P ++ [(P.length : Int)])) = tab pl.length fun p => some (atF p 0 (P ++ [pOf (dr.zip sd) (fa.zip sf) j r])) := tab_set _ (by
            rw [atF_append]; simp only [atF, pOf, et, or_true, if_true, Nat.zero_add]) (fun k hk hn => by
            rw [atF_append]
            simp only [atF, pOf, Nat.zero_add]
            by_cases c : k = r.1.toNat
            · subst c; rw [if_pos (by omega), if_pos rfl, ef]
            · rw [if_neg (by omega), if_neg c, List.append_nil])
        rw [e1, e2, w_id (by omega) (by omega), w_id (by omega) (by omega), if_pos (by omega)]
        simp only [pOf, rOf, hc]) 0 (tab ro.length fun i => some (blow (fa.zip sf) i), [], tab pl.length fun _ => some []) N (by
        simp only [List.take_zero, pipesF, atF]
        congr 1) (by omega) (by omega)
  refine e.trans ?_
  rw [hs', List.take_of_length_le (Nat.le_refl _)]
include hN in
theorem make_eq {pl : List Pl} {ro : List Ro} {fa : List Fa} {dr : List Do} {sf sd : List Int} (h : AirOk pl ro fa dr) (hs : SetOk fa dr sf sd) (k : List Pi → List (Option (List Int)) → Option β) :
    F50.C N pl ro fa dr sf sd k = k (pipesF (dr.zip sd) (fa.zip sf) 0 ro) (tab pl.length fun p => some (atF p 0 (pipesF (dr.zip sd) (fa.zip sf) 0 ro))) := by
  have h1 := h.nro
  have h2 := h.npl
  rw [F50.C_eq]; unfold F50.K
  simp only [res, Int.toNat_natCast, if_true, show (0 : Int) ≤ (ro.length : Int) by omega, show (ro.length : Int) ≤ 1000000000 by omega, tab_rep]
  rw [make_doors hN h hs, make_fans hN h hs]
  simp only [if_true, show (0 : Int) ≤ (pl.length : Int) by omega, show (pl.length : Int) ≤ 1000000000 by omega]
  rw [make_roads hN h]
end Go.Vi.B
/- What the program's Drop and Flow answer. -/
namespace Go.Vi.A
theorem lfind {α β : Type} {xs : List α} (p : α → Bool) {L : Nat → Nat → Option β} {k1 : α → Option β} {k0 : Option β} (hend : ∀ n, L (n + 1) xs.length = k0)
    (hstep : ∀ i x, xs[i]? = some x → ∀ n, L (n + 1) i = if p x = true then k1 x else L n (i + 1)) :
    ∀ n i, i ≤ xs.length → xs.length < n + i → L n i = match (xs.drop i).find? p with | some x => k1 x | none => k0 := by
  intro n
  induction n with
  | zero => intro i h1 h2; omega
  | succ n ih =>
    intro i h1 h2
    by_cases c : i = xs.length
    · subst c
      rw [hend, List.drop_of_length_le (Nat.le_refl _)]; rfl
    · have hi : i < xs.length := by omega
      rw [hstep i xs[i] (List.getElem?_eq_getElem hi), List.drop_eq_getElem_cons hi, ih (i + 1) (by omega) (by omega)]
      simp only [List.find?_cons]
      cases p xs[i] <;> rfl
theorem pipesF_find (dz : DS) (fz : FS) {t : Nat} {r : Ro} (hc : r.2.2.2.2.2.1 = false) : ∀ (l : List Ro) (i : Nat), i ≤ t → l[t - i]? = some r → (pipesF dz fz i l).find? (fun x => decide (x.2.1 = (t : Int))) = some (pOf dz fz t r)
  | [], i, _, h => by simp at h
  | a :: l, i, hi, h => by
    simp only [pipesF]
    by_cases e : t = i
    · subst e
      simp only [Nat.sub_self, List.getElem?_cons_zero, Option.some.injEq] at h
      subst h
      rw [if_neg (by rw [hc]; decide)]
      simp [pOf]
    · have h' : l[t - (i + 1)]? = some r := by
        rw [show t - i = (t - (i + 1)) + 1 by omega] at h
        simpa using h
      have ih := pipesF_find dz fz hc l (i + 1) (by omega) h'
      split
      · exact ih
      · rw [List.find?_cons_of_neg, ih]
        show ¬ decide (((i : Nat) : Int) = (t : Int)) = true
        rw [decide_eq_true_eq]; omega
theorem pOf_closed (dz : DS) (fz : FS) (i : Int) (r : Ro) : (pOf dz fz i r).1.2.2.2.2.2.1 = r.2.2.2.2.2.1 := rfl
end Go.Vi.A
namespace Go.Vi.B
open Go.Proofs Go.Vi.A
set_option linter.unusedVariables false
set_option linter.unusedSimpArgs false
variable {β : Type} {N : Nat} (hN : 1000 ≤ N)
theorem pOf_ok {pl : List Pl} {ro : List Ro} {fa : List Fa} {dr : List Do} (h : AirOk pl ro fa dr) (sf sd : List Int) (i : Int) {r : Ro} (hr : r ∈ ro) : PipeOk (pOf (dr.zip sd) (fa.zip sf) i r) := by
  refine ⟨rOf_bd h sd i hr, (h.road r hr).lift, ?_, fun x hx => ?_⟩
  · exact Nat.le_trans (List.length_filter_le _ _) (by rw [List.length_zip]; have := h.nfa; omega)
  · have hx := (List.of_mem_zip (List.mem_filter.1 hx).1).1
    exact (h.fan _ hx).1
include hN in
theorem branch_pipe (pl : List Pl) (ro : List Ro) (fa : List Fa) (dr : List Do) (sf sd : List Int) (i : Int)
    (k0 : Int → Int → Int → Int → Bool → Bool → Int → Int → Int → Int → Int → Bool → (List (Fa × Int)) → Option β) (k1 : Int → Int → Int → Int → Bool → Bool → Int → Int → Int → Int → Int → (List (Fa × Int)) → Bool → Option β) :
    (openB pl ro fa dr sf sd i = false ∧ F42.C N pl ro fa dr sf sd i k0 k1 = k0 0 0 0 0 false false 0 0 0 0 0 false []) ∨
    (openB pl ro fa dr sf sd i = true ∧ ∃ p, p = pOf (dr.zip sd) (fa.zip sf) i (ro.getD i.toNat (0, 0, 0, 0, false, true, (0, 0), (0, 0))) ∧ PipeOk p ∧ F42.C N pl ro fa dr sf sd i k0 k1 = k1 p.1.1 p.1.2.1 p.1.2.2.1 p.1.2.2.2.1 p.1.2.2.2.2.1 p.1.2.2.2.2.2.1 p.1.2.2.2.2.2.2.1.1 p.1.2.2.2.2.2.2.1.2 p.1.2.2.2.2.2.2.2.1 p.1.2.2.2.2.2.2.2.2 p.2.1 p.2.2 true) := by
  rw [F42.C_eq]; unfold F42.K
  simp only [branch_Right hN, nz]
  cases ho : openB pl ro fa dr sf sd i with
  | true =>
    right
    obtain ⟨ha, hs, hi, r, hr, hc⟩ := openB_iff ho
    have h0 : rightE pl ro fa dr sf sd = 0 := by
      unfold openB at ho
      simp only [Bool.and_eq_true, decide_eq_true_eq] at ho
      exact ho.1
    have hl := idx hr
    refine ⟨rfl, _, rfl, by rw [getD_eq hr]; exact pOf_ok ha sf sd i (List.mem_of_getElem? hr), ?_⟩
    simp only [h0, decide_true, res, hr, ge_some, hc]
    rw [if_neg (by omega), if_neg (by omega), if_pos (by omega), make_eq hN ha hs, getD_eq hr]
    have hlen := pipesF_len (dr.zip sd) (fa.zip sf) ro 0
    have h1 := ha.nro
    have := lfind (xs := pipesF (dr.zip sd) (fa.zip sf) 0 ro) (fun x => decide (x.2.1 = i)) (L := fun n j => F42.l4 N n i 0 0 0 0 false false 0 0 0 0 0 [] false (pipesF (dr.zip sd) (fa.zip sf) 0 ro) (tab pl.length fun p => some (atF p 0 (pipesF (dr.zip sd) (fa.zip sf) 0 ro))) ((pipesF (dr.zip sd) (fa.zip sf) 0 ro).length : Int) (j : Int) (fun z5 z6 z7 z8 z9 z10 z11 z12 z13 z14 z15 z16 z17 => k1 z5 z6 z7 z8 z9 z10 z11 z12 z13 z14 z15 z16 z17) fun _ _ _ _ _ _ _ _ _ _ _ _ _ _ _ _ _ _ _ => k0 0 0 0 0 false false 0 0 0 0 0 false [])
      (k1 := fun p => k1 p.1.1 p.1.2.1 p.1.2.2.1 p.1.2.2.2.1 p.1.2.2.2.2.1 p.1.2.2.2.2.2.1 p.1.2.2.2.2.2.2.1.1 p.1.2.2.2.2.2.2.1.2 p.1.2.2.2.2.2.2.2.1 p.1.2.2.2.2.2.2.2.2 p.2.1 p.2.2 true) (k0 := k0 0 0 0 0 false false 0 0 0 0 0 false [])
      (fun n => by simp only [F42.l4, res, Int.lt_irrefl, if_false]) (fun j x hx n => by
        have hj := idx hx
        simp only [F42.l4, res, Int.toNat_natCast, hx, ge_some, w_succ (show j < 4000000000 by omega)]
        rw [if_pos (by omega), if_pos (by omega)]
        by_cases c : x.2.1 = i
        · simp only [c, decide_true, if_true]
        · simp only [c, decide_false, Bool.false_eq_true, if_false]) N 0 (by omega) (by omega)
    refine this.trans ?_
    have ei : ((i.toNat : Nat) : Int) = i := by omega
    have hf := pipesF_find (dr.zip sd) (fa.zip sf) hc ro 0 (Nat.zero_le i.toNat) (by simpa using hr)
    rw [ei] at hf
    rw [List.drop_zero, hf]
  | false =>
    left
    refine ⟨rfl, ?_⟩
    unfold openB at ho
    by_cases c0 : rightE pl ro fa dr sf sd = 0
    · simp only [c0, decide_true, res, Bool.true_and] at ho ⊢
      by_cases c1 : i < 0
      · rw [if_pos c1]
      by_cases c2 : i ≥ (ro.length : Int)
      · rw [if_neg c1, if_pos c2]
      rw [if_neg c1, if_neg c2, if_pos (by omega), getD_get (d := (0, 0, 0, 0, false, true, (0, 0), (0, 0))) (show i.toNat < ro.length by omega), ge_some]
      rw [decide_eq_true (show i ≥ 0 by omega), decide_eq_true (show i < (ro.length : Int) by omega)] at ho
      simp only [Bool.true_and, Bool.not_eq_false'] at ho
      rw [ho]; rfl
    · simp only [c0, decide_false, res, Bool.not_false]
include hN in
theorem branch_Drop (pl : List Pl) (ro : List Ro) (fa : List Fa) (dr : List Do) (sf sd : List Int) (i q : Int) (k : Int → Int → Option β) :
    F23.C N pl ro fa dr sf sd i q k = k (dropS pl ro fa dr sf sd i q).1 (dropS pl ro fa dr sf sd i q).2 := by
  rw [F23.C_eq]; unfold F23.K dropS
  rcases branch_pipe hN pl ro fa dr sf sd i _ _ with ⟨ho, e⟩ | ⟨ho, p, hp, ok, e⟩
  · refine e.trans ?_
    simp only [res, Bool.not_false, ho, Bool.false_eq_true, ↓reduceIte]
  · refine e.trans ?_
    simp only [res, Bool.not_true, ho, ↓reduceIte]
    by_cases c1 : q < -1048577
    · simp only [c1, ↓reduceIte]
    by_cases c2 : q > 1048577
    · simp only [c1, c2, ↓reduceIte]
    simp only [c1, c2, ↓reduceIte]
    rw [pipe_Drop hN ok (by omega) (by omega), hp, pdrop_pOf]
include hN in
theorem branch_Flow (pl : List Pl) (ro : List Ro) (fa : List Fa) (dr : List Do) (sf sd : List Int) (i p : Int) (k : Int → Int → Option β) :
    F25.C N pl ro fa dr sf sd i p k = k (flowS pl ro fa dr sf sd i p).1 (flowS pl ro fa dr sf sd i p).2 := by
  rw [F25.C_eq]; unfold F25.K flowS
  rcases branch_pipe hN pl ro fa dr sf sd i _ _ with ⟨ho, e⟩ | ⟨ho, x, hx, ok, e⟩
  · refine e.trans ?_
    simp only [res, Bool.not_false, ho, Bool.false_eq_true, ↓reduceIte]
  · refine e.trans ?_
    simp only [res, Bool.not_true, ho, ↓reduceIte]
    rw [pipe_Low hN ok, pipe_High hN ok, hx, funext (pdrop_pOf _ _ _ _)]
end Go.Vi.B
/- minecontrol/branch.Fits -/
namespace Go.Vi.B
open Go.Proofs
set_option linter.unusedVariables false
set_option maxRecDepth 100000
abbrev F27.i : Sh := [(0, .agg [.lst .frz 70 kd1, .lst .frz 64 kd8, .lst .frz 44 kd11, .lst .frz 46 kd13]), (2, .agg [.lst .frz 3 .i, .lst .frz 3 .i]), (4, .agg [.lst .frz 3 .i, .lst .frz 3 .i])]
abbrev F27.o0 : Sh := [(0, .one .i)]
noncomputable def F27.l9 {β : Type} (N : Nat) : Nat → (List Pl) → (List Ro) → (List Fa) → (List Do) → (List Int) → (List Int) → (List Int) → (List Int) → Int → (List Int) → Int → Int → (Int → Option β) → (List Pl → List Ro → List Fa → List Do → List Int → List Int → List Int → List Int → Int → List Int → Int → Int → Bool → Option β) → Option β
 | 0, _, _, _, _, _, _, _, _, _, _, _, _, _, _ => none
 | n + 1, v0, v1, v2, v3, v4, v5, v6, v7, v8, v9, v10, v11, k0, k1 =>
  bl (v11 < v10) (k1 v0 v1 v2 v3 v4 v5 v6 v7 v8 v9 v10 v11 (decide (v11 < v10))) <|
  ck (0 ≤ v11) <|
  ge (v9[v11.toNat]?) fun x1 =>
  br (x1 < (-70368744177664)) (k0 1) <|
  br (x1 > 70368744177664) (k0 1) <|
  F27.l9 N n v0 v1 v2 v3 v4 v5 v6 v7 v8 v9 v10 (w (v11 + 1)) k0 k1
noncomputable def F27.l15 {β : Type} (N : Nat) : Nat → (List Pl) → (List Ro) → (List Fa) → (List Do) → (List Int) → (List Int) → (List Int) → (List Int) → Int → (List Int) → Int → Int → (Int → Option β) → (List Pl → List Ro → List Fa → List Do → List Int → List Int → List Int → List Int → Int → List Int → Int → Int → Bool → Option β) → Option β
 | 0, _, _, _, _, _, _, _, _, _, _, _, _, _, _ => none
 | n + 1, v0, v1, v2, v3, v4, v5, v6, v7, v8, v9, v10, v11, k0, k1 =>
  bl (v11 < v10) (k1 v0 v1 v2 v3 v4 v5 v6 v7 v8 v9 v10 v11 (decide (v11 < v10))) <|
  ck (0 ≤ v11) <|
  ge (v9[v11.toNat]?) fun x1 =>
  br (x1 < (-1048576)) (k0 1) <|
  br (x1 > 1048576) (k0 1) <|
  F27.l15 N n v0 v1 v2 v3 v4 v5 v6 v7 v8 v9 v10 (w (v11 + 1)) k0 k1
noncomputable def F27.l22 {β : Type} (N : Nat) : Nat → (List Pl) → (List Ro) → (List Fa) → (List Do) → (List Int) → (List Int) → (List Int) → (List Int) → Int → (List Int) → (List Ro) → Int → Int → (Int → Option β) → (List Pl → List Ro → List Fa → List Do → List Int → List Int → List Int → List Int → Int → List Int → List Ro → Int → Int → Bool → Option β) → Option β
 | 0, _, _, _, _, _, _, _, _, _, _, _, _, _, _, _ => none
 | n + 1, v0, v1, v2, v3, v4, v5, v6, v7, v8, v9, v10, v11, v12, k0, k1 =>
  bl (v12 < v11) (k1 v0 v1 v2 v3 v4 v5 v6 v7 v8 v9 v10 v11 v12 (decide (v12 < v11))) <|
  ck (0 ≤ v12) <|
  ge (v10[v12.toNat]?) fun x1 =>
  bl (x1.2.2.2.2.2.1) (
   ck (0 ≤ x1.1) <|
   ge (v9[x1.1.toNat]?) fun _ =>
   ge (v9[x1.1.toNat]?) fun x14 =>
   ck (0 ≤ v12) <|
   ge (v7[v12.toNat]?) fun x15 =>
   ck (0 ≤ x1.1) <|
   ge (v9[x1.1.toNat]?) fun _ =>
   ge (v9[x1.1.toNat]?) fun _ =>
   ck (0 ≤ x1.2.1) <|
   ge ((v9.set x1.1.toNat (w (x14 + x15)))[x1.2.1.toNat]?) fun _ =>
   ge ((v9.set x1.1.toNat (w (x14 + x15)))[x1.2.1.toNat]?) fun x19 =>
   ck (0 ≤ v12) <|
   ge (v7[v12.toNat]?) fun x20 =>
   ck (0 ≤ x1.2.1) <|
   ge ((v9.set x1.1.toNat (w (x14 + x15)))[x1.2.1.toNat]?) fun _ =>
   ge ((v9.set x1.1.toNat (w (x14 + x15)))[x1.2.1.toNat]?) fun _ =>
   F27.l22 N n v0 v1 v2 v3 v4 v5 v6 v7 v8 ((v9.set x1.1.toNat (w (x14 + x15))).set x1.2.1.toNat (w (x19 - x20))) v10 v11 (w (v12 + 1)) k0 k1) <|
  ck (0 ≤ v12) <|
  ge (v7[v12.toNat]?) fun x2 =>
  br (x2 != 0) (k0 10) <|
  ck (0 ≤ x1.1) <|
  ge (v9[x1.1.toNat]?) fun _ =>
  ge (v9[x1.1.toNat]?) fun x4 =>
  ck (0 ≤ v12) <|
  ge (v7[v12.toNat]?) fun x5 =>
  ck (0 ≤ x1.1) <|
  ge (v9[x1.1.toNat]?) fun _ =>
  ge (v9[x1.1.toNat]?) fun _ =>
  ck (0 ≤ x1.2.1) <|
  ge ((v9.set x1.1.toNat (w (x4 + x5)))[x1.2.1.toNat]?) fun _ =>
  ge ((v9.set x1.1.toNat (w (x4 + x5)))[x1.2.1.toNat]?) fun x9 =>
  ck (0 ≤ v12) <|
  ge (v7[v12.toNat]?) fun x10 =>
  ck (0 ≤ x1.2.1) <|
  ge ((v9.set x1.1.toNat (w (x4 + x5)))[x1.2.1.toNat]?) fun _ =>
  ge ((v9.set x1.1.toNat (w (x4 + x5)))[x1.2.1.toNat]?) fun _ =>
  F27.l22 N n v0 v1 v2 v3 v4 v5 v6 v7 v8 ((v9.set x1.1.toNat (w (x4 + x5))).set x1.2.1.toNat (w (x9 - x10))) v10 v11 (w (v12 + 1)) k0 k1
noncomputable def F27.l30 {β : Type} (N : Nat) : Nat → (List Pl) → (List Ro) → (List Fa) → (List Do) → (List Int) → (List Int) → (List Int) → (List Int) → Int → (List Int) → (List Pl) → Int → Int → (Int → Option β) → (List Pl → List Ro → List Fa → List Do → List Int → List Int → List Int → List Int → Int → List Int → List Pl → Int → Int → Bool → Option β) → Option β
 | 0, _, _, _, _, _, _, _, _, _, _, _, _, _, _, _ => none
 | n + 1, v0, v1, v2, v3, v4, v5, v6, v7, v8, v9, v10, v11, v12, k0, k1 =>
  bl (v12 < v11) (k1 v0 v1 v2 v3 v4 v5 v6 v7 v8 v9 v10 v11 v12 (decide (v12 < v11))) <|
  ck (0 ≤ v12) <|
  ge (v10[v12.toNat]?) fun x1 =>
  bl (x1.2) (
   bl (!x1.2) (F27.l30 N n v0 v1 v2 v3 v4 v5 v6 v7 v8 v9 v10 v11 (w (v12 + 1)) k0 k1) <|
   ck (0 ≤ v12) <|
   ge (v9[v12.toNat]?) fun _ =>
   ge (v9[v12.toNat]?) fun x6 =>
   br (x6 != 0) (k0 10) <|
   F27.l30 N n v0 v1 v2 v3 v4 v5 v6 v7 v8 v9 v10 v11 (w (v12 + 1)) k0 k1) <|
  ck (0 ≤ v12) <|
  ge (v6[v12.toNat]?) fun x2 =>
  br (x2 != 0) (k0 10) <|
  bl (!x1.2) (F27.l30 N n v0 v1 v2 v3 v4 v5 v6 v7 v8 v9 v10 v11 (w (v12 + 1)) k0 k1) <|
  ck (0 ≤ v12) <|
  ge (v9[v12.toNat]?) fun _ =>
  ge (v9[v12.toNat]?) fun x4 =>
  br (x4 != 0) (k0 10) <|
  F27.l30 N n v0 v1 v2 v3 v4 v5 v6 v7 v8 v9 v10 v11 (w (v12 + 1)) k0 k1
noncomputable def F27.l36 {β : Type} (N : Nat) : Nat → (List Int) → (List Int) → Int → (List (Ro × (Int × (List (Fa × Int))))) → (List (Option (List Int))) → Int → Int → (Int → Option β) → (List Int → List Int → Int → (List (Ro × (Int × (List (Fa × Int))))) → (List (Option (List Int))) → Int → Int → Bool → Option β) → Option β
 | 0, _, _, _, _, _, _, _, _, _ => none
 | n + 1, v0, v1, v2, v3, v4, v5, v6, k0, k1 =>
  bl (v6 < v5) (k1 v0 v1 v2 v3 v4 v5 v6 (decide (v6 < v5))) <|
  ck (0 ≤ v6) <|
  ge (v3[v6.toNat]?) fun _ =>
  ge (v3[v6.toNat]?) fun x2 =>
  ck (0 ≤ x2.1.1) <|
  ge (v0[x2.1.1.toNat]?) fun x3 =>
  ck (0 ≤ x2.1.2.1) <|
  ge (v0[x2.1.2.1.toNat]?) fun x4 =>
  ck (0 ≤ x2.2.1) <|
  ge (v1[x2.2.1.toNat]?) fun x5 =>
  F43.C N x2.1.1 x2.1.2.1 x2.1.2.2.1 x2.1.2.2.2.1 x2.1.2.2.2.2.1 x2.1.2.2.2.2.2.1 x2.1.2.2.2.2.2.2.1.1 x2.1.2.2.2.2.2.2.1.2 x2.1.2.2.2.2.2.2.2.1 x2.1.2.2.2.2.2.2.2.2 x2.2.1 x2.2.2 x5 fun r6 r7 =>
  br ((w (x3 - x4)) < r6) (k0 10) <|
  br ((w (x3 - x4)) > r7) (k0 10) <|
  F27.l36 N n v0 v1 v2 v3 v4 v5 (w (v6 + 1)) k0 k1
noncomputable def F27.K {β : Type} (N : Nat) (a0 : List Pl) (a1 : List Ro) (a2 : List Fa) (a3 : List Do) (a4 a5 a6 a7 : List Int) (k0 : Int → Option β) : Option β :=
 F17.C N a0 a1 a2 a3 fun r1 =>
 br (r1 != 0) (k0 r1) <|
 F41.C N a0 a1 a2 a3 a4 a5 fun r2 =>
 br (!r2) (k0 21) <|
 br ((a6.length : Int) != (a0.length : Int)) (k0 11) <|
 br ((a7.length : Int) != (a1.length : Int)) (k0 11) <|
 F27.l9 N N a0 a1 a2 a3 a4 a5 a6 a7 0 a6 (a6.length : Int) 0 (fun z3 => k0 z3) fun z4 z5 z6 z7 z8 z9 z10 z11 z12 _ _ _ _ =>
 F27.l15 N N z4 z5 z6 z7 z8 z9 z10 z11 z12 z11 (z11.length : Int) 0 (fun z17 => k0 z17) fun z18 z19 z20 z21 z22 z23 z24 z25 z26 _ _ _ _ =>
 ck ((z18.length : Int) = (z18.length : Int)) <|
 ck (0 ≤ (z18.length : Int)) <|
 ck ((z18.length : Int) ≤ 1000000000) <|
 F27.l22 N N z18 z19 z20 z21 z22 z23 z24 z25 z26 (List.replicate (Int.toNat (z18.length : Int)) 0) z19 (z19.length : Int) 0 (fun z31 => k0 z31) fun z32 z33 z34 z35 z36 z37 z38 z39 z40 z41 _ _ _ _ =>
 F27.l30 N N z32 z33 z34 z35 z36 z37 z38 z39 z40 z41 z32 (z32.length : Int) 0 (fun z46 => k0 z46) fun z47 z48 z49 z50 z51 z52 z53 z54 z55 _ _ _ _ _ =>
 F50.C N z47 z48 z49 z50 z51 z52 fun r61 r62 =>
 F27.l36 N N z53 z54 z55 r61 r62 (r61.length : Int) 0 (fun z63 => k0 z63) fun _ _ _ _ _ _ _ _ =>
 k0 0
noncomputable def F27.fx : Fx := ⟨Try.prog, [], [], [(0,[3,4,5,6]),(1,[3,4,5,6,7]),(2,[3,4,5,6,7,24]),(3,[6]),(4,[3,4,5,6,29]),(5,[6]),(6,[3,4,5,6,47]),(7,[6]),(8,[3,4,5,6,49,50,51]),(9,[3,4,5,6,49,50,51,52]),(10,[3,4,5,6,9,49,50,51]),(11,[3,4,5,6,49,50,51,60]),(12,[6]),(13,[3,4,5,6,49,50,51]),(14,[3,4,5,6,63,64,65]),(15,[3,4,5,6,63,64,65,66]),(16,[3,4,5,6,11,63,64,65]),(17,[3,4,5,6,63,64,65,74]),(18,[6]),(19,[3,4,5,6,63,64,65]),(20,[3,4,5,6,12]),(21,[3,4,5,6,12,83,84,85]),(22,[3,4,5,6,12,83,84,85,86]),(23,[3,4,5,6,12,13,14,83,84,85]),(24,[3,4,5,6,12,13,14,83,84,85,99]),(25,[6]),(26,[3,4,5,6,12,13,14,83,84,85]),(27,[3,4,5,6,12,83,84,85]),(28,[3,4,5,6,12,83,84,85]),(29,[3,4,5,6,12,127,128,129]),(30,[3,4,5,6,12,127,128,129,130]),(31,[3,4,5,6,12,15,16,127,128,129]),(32,[3,4,5,6,12,127,128,129,155]),(33,[6]),(34,[3,4,5,6,12,127,128,129]),(35,[5,6,160,161,162]),(36,[5,6,160,161,162,163]),(37,[5,6,18,160,161,162]),(38,[5,6,18,19,160,161,162]),(39,[5,6,19,20,160,161,162]),(40,[5,6,160,161,162,198]),(41,[6]),(42,[5,6,160,161,162]),(43,[6])], 200, []⟩
noncomputable def F27.cs (N : Nat) : List (Ctr Try.prog) := [F17.X N, F41.X N, F50.X N, F43.X N]
abbrev F27.s9 : Sh := [(6, .one (.addr 3 0)), (7, .slot false [.lst .frz 70 kd1, .lst .frz 64 kd8, .lst .frz 44 kd11, .lst .frz 46 kd13]), (8, .one (.addr 4 0)), (9, .slot false [.lst .frz 3 .i, .lst .frz 3 .i]), (10, .one (.addr 5 0)), (11, .slot false [.lst .frz 3 .i, .lst .frz 3 .i]), (12, .one .i), (98, .one (.lst .frz 3 .i)), (100, .one .i), (102, .one .i)]
abbrev F27.e9_0 : Sh := [(12, .one .i)]
abbrev F27.e9_1 : Sh := [(6, .one (.addr 3 0)), (7, .slot false [.lst .frz 70 kd1, .lst .frz 64 kd8, .lst .frz 44 kd11, .lst .frz 46 kd13]), (8, .one (.addr 4 0)), (9, .slot false [.lst .frz 3 .i, .lst .frz 3 .i]), (10, .one (.addr 5 0)), (11, .slot false [.lst .frz 3 .i, .lst .frz 3 .i]), (12, .one .i), (98, .one (.lst .frz 3 .i)), (100, .one .i), (102, .one .i), (104, .one .bool)]
noncomputable def F27.X9 (N : Nat) : LpC Try.prog F27.fx := mkL (F27.cs N) [] ((loopsOf (bodyOf Try.f27)).getD 0 .skip) 9 (by kernel_rfl) (by kernel_rfl) (by kernel_rfl) F27.s9 (fun n x k => F27.l9 N n x.1 x.2.1 x.2.2.1 x.2.2.2.1 x.2.2.2.2.1 x.2.2.2.2.2.1 x.2.2.2.2.2.2.1 x.2.2.2.2.2.2.2.1 x.2.2.2.2.2.2.2.2.1 x.2.2.2.2.2.2.2.2.2.1 x.2.2.2.2.2.2.2.2.2.2.1 x.2.2.2.2.2.2.2.2.2.2.2.1 (fun r0 => k (.ret) (Sh.mk F27.e9_0 (r0, ()))) (fun r0 r1 r2 r3 r4 r5 r6 r7 r8 r9 r10 r11 r12 => k (.exit 0) (Sh.mk F27.e9_1 (r0, r1, r2, r3, r4, r5, r6, r7, r8, r9, r10, r11, r12, ())))) (fun _ _ => rfl) (fun _ _ _ => by kernel_rfl) N
abbrev F27.s15 : Sh := [(6, .one (.addr 3 0)), (7, .slot false [.lst .frz 70 kd1, .lst .frz 64 kd8, .lst .frz 44 kd11, .lst .frz 46 kd13]), (8, .one (.addr 4 0)), (9, .slot false [.lst .frz 3 .i, .lst .frz 3 .i]), (10, .one (.addr 5 0)), (11, .slot false [.lst .frz 3 .i, .lst .frz 3 .i]), (12, .one .i), (126, .one (.lst .frz 3 .i)), (128, .one .i), (130, .one .i)]
abbrev F27.e15_0 : Sh := [(12, .one .i)]
abbrev F27.e15_1 : Sh := [(6, .one (.addr 3 0)), (7, .slot false [.lst .frz 70 kd1, .lst .frz 64 kd8, .lst .frz 44 kd11, .lst .frz 46 kd13]), (8, .one (.addr 4 0)), (9, .slot false [.lst .frz 3 .i, .lst .frz 3 .i]), (10, .one (.addr 5 0)), (11, .slot false [.lst .frz 3 .i, .lst .frz 3 .i]), (12, .one .i), (126, .one (.lst .frz 3 .i)), (128, .one .i), (130, .one .i), (132, .one .bool)]
noncomputable def F27.X15 (N : Nat) : LpC Try.prog F27.fx := mkL (F27.cs N) [] ((loopsOf (bodyOf Try.f27)).getD 1 .skip) 15 (by kernel_rfl) (by kernel_rfl) (by kernel_rfl) F27.s15 (fun n x k => F27.l15 N n x.1 x.2.1 x.2.2.1 x.2.2.2.1 x.2.2.2.2.1 x.2.2.2.2.2.1 x.2.2.2.2.2.2.1 x.2.2.2.2.2.2.2.1 x.2.2.2.2.2.2.2.2.1 x.2.2.2.2.2.2.2.2.2.1 x.2.2.2.2.2.2.2.2.2.2.1 x.2.2.2.2.2.2.2.2.2.2.2.1 (fun r0 => k (.ret) (Sh.mk F27.e15_0 (r0, ()))) (fun r0 r1 r2 r3 r4 r5 r6 r7 r8 r9 r10 r11 r12 => k (.exit 2) (Sh.mk F27.e15_1 (r0, r1, r2, r3, r4, r5, r6, r7, r8, r9, r10, r11, r12, ())))) (fun _ _ => rfl) (fun _ _ _ => by kernel_rfl) N
abbrev F27.s22 : Sh := [(6, .one (.addr 3 0)), (7, .slot false [.lst .frz 70 kd1, .lst .frz 64 kd8, .lst .frz 44 kd11, .lst .frz 46 kd13]), (8, .one (.addr 4 0)), (9, .slot false [.lst .frz 3 .i, .lst .frz 3 .i]), (10, .one (.addr 5 0)), (11, .slot false [.lst .frz 3 .i, .lst .frz 3 .i]), (12, .one .i), (24, .one (.view 12 0)), (25, .slot true [.lst .own 3 .i]), (166, .one (.lst .frz 64 kd8)), (168, .one .i), (170, .one .i)]
abbrev F27.e22_0 : Sh := [(12, .one .i)]
abbrev F27.e22_1 : Sh := [(6, .one (.addr 3 0)), (7, .slot false [.lst .frz 70 kd1, .lst .frz 64 kd8, .lst .frz 44 kd11, .lst .frz 46 kd13]), (8, .one (.addr 4 0)), (9, .slot false [.lst .frz 3 .i, .lst .frz 3 .i]), (10, .one (.addr 5 0)), (11, .slot false [.lst .frz 3 .i, .lst .frz 3 .i]), (12, .one .i), (24, .one (.view 12 0)), (25, .slot true [.lst .own 3 .i]), (166, .one (.lst .frz 64 kd8)), (168, .one .i), (170, .one .i), (172, .one .bool)]
noncomputable def F27.X22 (N : Nat) : LpC Try.prog F27.fx := mkL (F27.cs N) [] ((loopsOf (bodyOf Try.f27)).getD 2 .skip) 22 (by kernel_rfl) (by kernel_rfl) (by kernel_rfl) F27.s22 (fun n x k => F27.l22 N n x.1 x.2.1 x.2.2.1 x.2.2.2.1 x.2.2.2.2.1 x.2.2.2.2.2.1 x.2.2.2.2.2.2.1 x.2.2.2.2.2.2.2.1 x.2.2.2.2.2.2.2.2.1 x.2.2.2.2.2.2.2.2.2.1 x.2.2.2.2.2.2.2.2.2.2.1 x.2.2.2.2.2.2.2.2.2.2.2.1 x.2.2.2.2.2.2.2.2.2.2.2.2.1 (fun r0 => k (.ret) (Sh.mk F27.e22_0 (r0, ()))) (fun r0 r1 r2 r3 r4 r5 r6 r7 r8 r9 r10 r11 r12 r13 => k (.exit 4) (Sh.mk F27.e22_1 (r0, r1, r2, r3, r4, r5, r6, r7, r8, r9, r10, r11, r12, r13, ())))) (fun _ _ => rfl) (fun _ _ _ => by kernel_rfl) N
abbrev F27.s30 : Sh := [(6, .one (.addr 3 0)), (7, .slot false [.lst .frz 70 kd1, .lst .frz 64 kd8, .lst .frz 44 kd11, .lst .frz 46 kd13]), (8, .one (.addr 4 0)), (9, .slot false [.lst .frz 3 .i, .lst .frz 3 .i]), (10, .one (.addr 5 0)), (11, .slot false [.lst .frz 3 .i, .lst .frz 3 .i]), (12, .one .i), (24, .one (.view 12 0)), (25, .slot true [.lst .own 3 .i]), (254, .one (.lst .frz 70 kd1)), (256, .one .i), (258, .one .i)]
abbrev F27.e30_0 : Sh := [(12, .one .i)]
abbrev F27.e30_1 : Sh := [(6, .one (.addr 3 0)), (7, .slot false [.lst .frz 70 kd1, .lst .frz 64 kd8, .lst .frz 44 kd11, .lst .frz 46 kd13]), (8, .one (.addr 4 0)), (9, .slot false [.lst .frz 3 .i, .lst .frz 3 .i]), (10, .one (.addr 5 0)), (11, .slot false [.lst .frz 3 .i, .lst .frz 3 .i]), (12, .one .i), (24, .one (.view 12 0)), (25, .slot true [.lst .own 3 .i]), (254, .one (.lst .frz 70 kd1)), (256, .one .i), (258, .one .i), (260, .one .bool)]
noncomputable def F27.X30 (N : Nat) : LpC Try.prog F27.fx := mkL (F27.cs N) [] ((loopsOf (bodyOf Try.f27)).getD 3 .skip) 30 (by kernel_rfl) (by kernel_rfl) (by kernel_rfl) F27.s30 (fun n x k => F27.l30 N n x.1 x.2.1 x.2.2.1 x.2.2.2.1 x.2.2.2.2.1 x.2.2.2.2.2.1 x.2.2.2.2.2.2.1 x.2.2.2.2.2.2.2.1 x.2.2.2.2.2.2.2.2.1 x.2.2.2.2.2.2.2.2.2.1 x.2.2.2.2.2.2.2.2.2.2.1 x.2.2.2.2.2.2.2.2.2.2.2.1 x.2.2.2.2.2.2.2.2.2.2.2.2.1 (fun r0 => k (.ret) (Sh.mk F27.e30_0 (r0, ()))) (fun r0 r1 r2 r3 r4 r5 r6 r7 r8 r9 r10 r11 r12 r13 => k (.exit 6) (Sh.mk F27.e30_1 (r0, r1, r2, r3, r4, r5, r6, r7, r8, r9, r10, r11, r12, r13, ())))) (fun _ _ => rfl) (fun _ _ _ => by kernel_rfl) N
abbrev F27.s36 : Sh := [(10, .one (.addr 5 0)), (11, .slot false [.lst .frz 3 .i, .lst .frz 3 .i]), (12, .one .i), (319, .slot true [.lst .own 84 kd16, .lst .own 31 (.ow 3 .i)]), (320, .one (.view 159 0)), (322, .one .i), (324, .one .i)]
abbrev F27.e36_0 : Sh := [(12, .one .i)]
abbrev F27.e36_1 : Sh := [(10, .one (.addr 5 0)), (11, .slot false [.lst .frz 3 .i, .lst .frz 3 .i]), (12, .one .i), (319, .slot true [.lst .own 84 kd16, .lst .own 31 (.ow 3 .i)]), (320, .one (.view 159 0)), (322, .one .i), (324, .one .i), (326, .one .bool)]
noncomputable def F27.X36 (N : Nat) : LpC Try.prog F27.fx := mkL (F27.cs N) [] ((loopsOf (bodyOf Try.f27)).getD 4 .skip) 36 (by kernel_rfl) (by kernel_rfl) (by kernel_rfl) F27.s36 (fun n x k => F27.l36 N n x.1 x.2.1 x.2.2.1 x.2.2.2.1 x.2.2.2.2.1 x.2.2.2.2.2.1 x.2.2.2.2.2.2.1 (fun r0 => k (.ret) (Sh.mk F27.e36_0 (r0, ()))) (fun r0 r1 r2 r3 r4 r5 r6 r7 => k (.exit 8) (Sh.mk F27.e36_1 (r0, r1, r2, r3, r4, r5, r6, r7, ())))) (fun _ _ => rfl) (fun _ _ _ => by kernel_rfl) N
noncomputable def F27.C {β : Type} (N : Nat) := (Sealed fun β => @F27.K β).1 β N
theorem F27.C_eq {β : Type} (N : Nat) : @F27.C β N = @F27.K β N := congrFun (congrFun (Sealed fun β => @F27.K β).2 β) N
noncomputable def F27.X (N : Nat) : Ctr Try.prog := mkF 27 Try.f27 F27.fx (F27.cs N) [F27.X9 N, F27.X15 N, F27.X22 N, F27.X30 N, F27.X36 N] F27.i (fun x k => F27.C N x.1 x.2.1 x.2.2.1 x.2.2.2.1 x.2.2.2.2.1 x.2.2.2.2.2.1 x.2.2.2.2.2.2.1 x.2.2.2.2.2.2.2.1 (fun r0 => k (Sh.mk F27.o0 (r0, ())))) (by intros; rw [F27.C_eq]; kernel_rfl) (by kernel_rfl) (by kernel_rfl) (by kernel_rfl) (by kernel_rfl) rfl (by kernel_rfl) rfl (by kernel_rfl) (by kernel_rfl) (by kernel_rfl) (.dead _ 27) rfl
end Go.Vi.B
/- minecontrol/minecontrolref09.Fits -/
namespace Go.Vi.B
open Go.Proofs
set_option linter.unusedVariables false
set_option maxRecDepth 100000
abbrev F28.i : Sh := [(0, .agg [.lst .frz 70 kd1, .lst .frz 64 kd8, .lst .frz 44 kd11, .lst .frz 46 kd13]), (2, .agg [.lst .frz 3 .i, .lst .frz 3 .i]), (4, .agg [.lst .frz 3 .i, .lst .frz 3 .i])]
abbrev F28.o0 : Sh := [(0, .one .i)]
noncomputable def F28.l9 {β : Type} (N : Nat) : Nat → (List Pl) → (List Ro) → (List Fa) → (List Do) → (List Int) → (List Int) → (List Int) → (List Int) → Int → Int → (Int → Option β) → (List Pl → List Ro → List Fa → List Do → List Int → List Int → List Int → List Int → Int → Int → Bool → Option β) → Option β
 | 0, _, _, _, _, _, _, _, _, _, _, _, _ => none
 | n + 1, v0, v1, v2, v3, v4, v5, v6, v7, v8, v9, k0, k1 =>
  bl (v9 < (v6.length : Int)) (k1 v0 v1 v2 v3 v4 v5 v6 v7 v8 v9 (decide (v9 < (v6.length : Int)))) <|
  ck (0 ≤ v9) <|
  ge (v6[v9.toNat]?) fun x1 =>
  br (x1 < (-70368744177664)) (k0 1) <|
  ck (0 ≤ v9) <|
  ge (v6[v9.toNat]?) fun x2 =>
  br (x2 > 70368744177664) (k0 1) <|
  F28.l9 N n v0 v1 v2 v3 v4 v5 v6 v7 v8 (w (v9 + 1)) k0 k1
noncomputable def F28.l14 {β : Type} (N : Nat) : Nat → (List Pl) → (List Ro) → (List Fa) → (List Do) → (List Int) → (List Int) → (List Int) → (List Int) → Int → Int → (Int → Option β) → (List Pl → List Ro → List Fa → List Do → List Int → List Int → List Int → List Int → Int → Int → Bool → Option β) → Option β
 | 0, _, _, _, _, _, _, _, _, _, _, _, _ => none
 | n + 1, v0, v1, v2, v3, v4, v5, v6, v7, v8, v9, k0, k1 =>
  bl (v9 < (v7.length : Int)) (k1 v0 v1 v2 v3 v4 v5 v6 v7 v8 v9 (decide (v9 < (v7.length : Int)))) <|
  ck (0 ≤ v9) <|
  ge (v7[v9.toNat]?) fun x1 =>
  br (x1 < (-1048576)) (k0 1) <|
  ck (0 ≤ v9) <|
  ge (v7[v9.toNat]?) fun x2 =>
  br (x2 > 1048576) (k0 1) <|
  F28.l14 N n v0 v1 v2 v3 v4 v5 v6 v7 v8 (w (v9 + 1)) k0 k1
noncomputable def F28.l20 {β : Type} (N : Nat) : Nat → (List Pl) → (List Ro) → (List Fa) → (List Do) → (List Int) → (List Int) → (List Int) → (List Int) → Int → (List Int) → Int → (Int → Option β) → (List Pl → List Ro → List Fa → List Do → List Int → List Int → List Int → List Int → Int → List Int → Int → Bool → Option β) → Option β
 | 0, _, _, _, _, _, _, _, _, _, _, _, _, _ => none
 | n + 1, v0, v1, v2, v3, v4, v5, v6, v7, v8, v9, v10, k0, k1 =>
  bl (v10 < (v7.length : Int)) (k1 v0 v1 v2 v3 v4 v5 v6 v7 v8 v9 v10 (decide (v10 < (v7.length : Int)))) <|
  ck (0 ≤ v10) <|
  ge (v1[v10.toNat]?) fun x1 =>
  bl (x1.2.2.2.2.2.1) (
   ck (0 ≤ x1.1) <|
   ge (v6[x1.1.toNat]?) fun x28 =>
   ck (0 ≤ x1.2.1) <|
   ge (v6[x1.2.1.toNat]?) fun x29 =>
   ck (0 ≤ v10) <|
   ge (v7[v10.toNat]?) fun x30 =>
   F24.C N v0 v1 v2 v3 v4 v5 v10 x30 fun r31 r32 =>
   bl (!x1.2.2.2.2.2.1) (
    ck (0 ≤ x1.1) <|
    ge (v9[x1.1.toNat]?) fun _ =>
    ge (v9[x1.1.toNat]?) fun x44 =>
    ck (0 ≤ v10) <|
    ge (v7[v10.toNat]?) fun x45 =>
    ck (0 ≤ x1.1) <|
    ge (v9[x1.1.toNat]?) fun _ =>
    ge (v9[x1.1.toNat]?) fun _ =>
    ck (0 ≤ x1.2.1) <|
    ge ((v9.set x1.1.toNat (w (x44 + x45)))[x1.2.1.toNat]?) fun _ =>
    ge ((v9.set x1.1.toNat (w (x44 + x45)))[x1.2.1.toNat]?) fun x49 =>
    ck (0 ≤ v10) <|
    ge (v7[v10.toNat]?) fun x50 =>
    ck (0 ≤ x1.2.1) <|
    ge ((v9.set x1.1.toNat (w (x44 + x45)))[x1.2.1.toNat]?) fun _ =>
    ge ((v9.set x1.1.toNat (w (x44 + x45)))[x1.2.1.toNat]?) fun _ =>
    F28.l20 N n v0 v1 v2 v3 v4 v5 v6 v7 v8 ((v9.set x1.1.toNat (w (x44 + x45))).set x1.2.1.toNat (w (x49 - x50))) (w (v10 + 1)) k0 k1) <|
   br ((w (x28 - x29)) < r31) (k0 10) <|
   br ((w (x28 - x29)) > r32) (k0 10) <|
   ck (0 ≤ x1.1) <|
   ge (v9[x1.1.toNat]?) fun _ =>
   ge (v9[x1.1.toNat]?) fun x34 =>
   ck (0 ≤ v10) <|
   ge (v7[v10.toNat]?) fun x35 =>
   ck (0 ≤ x1.1) <|
   ge (v9[x1.1.toNat]?) fun _ =>
   ge (v9[x1.1.toNat]?) fun _ =>
   ck (0 ≤ x1.2.1) <|
   ge ((v9.set x1.1.toNat (w (x34 + x35)))[x1.2.1.toNat]?) fun _ =>
   ge ((v9.set x1.1.toNat (w (x34 + x35)))[x1.2.1.toNat]?) fun x39 =>
   ck (0 ≤ v10) <|
   ge (v7[v10.toNat]?) fun x40 =>
   ck (0 ≤ x1.2.1) <|
   ge ((v9.set x1.1.toNat (w (x34 + x35)))[x1.2.1.toNat]?) fun _ =>
   ge ((v9.set x1.1.toNat (w (x34 + x35)))[x1.2.1.toNat]?) fun _ =>
   F28.l20 N n v0 v1 v2 v3 v4 v5 v6 v7 v8 ((v9.set x1.1.toNat (w (x34 + x35))).set x1.2.1.toNat (w (x39 - x40))) (w (v10 + 1)) k0 k1) <|
  ck (0 ≤ v10) <|
  ge (v7[v10.toNat]?) fun x2 =>
  br (x2 != 0) (k0 10) <|
  ck (0 ≤ x1.1) <|
  ge (v6[x1.1.toNat]?) fun x3 =>
  ck (0 ≤ x1.2.1) <|
  ge (v6[x1.2.1.toNat]?) fun x4 =>
  ck (0 ≤ v10) <|
  ge (v7[v10.toNat]?) fun x5 =>
  F24.C N v0 v1 v2 v3 v4 v5 v10 x5 fun r6 r7 =>
  bl (!x1.2.2.2.2.2.1) (
   ck (0 ≤ x1.1) <|
   ge (v9[x1.1.toNat]?) fun _ =>
   ge (v9[x1.1.toNat]?) fun x19 =>
   ck (0 ≤ v10) <|
   ge (v7[v10.toNat]?) fun x20 =>
   ck (0 ≤ x1.1) <|
   ge (v9[x1.1.toNat]?) fun _ =>
   ge (v9[x1.1.toNat]?) fun _ =>
   ck (0 ≤ x1.2.1) <|
   ge ((v9.set x1.1.toNat (w (x19 + x20)))[x1.2.1.toNat]?) fun _ =>
   ge ((v9.set x1.1.toNat (w (x19 + x20)))[x1.2.1.toNat]?) fun x24 =>
   ck (0 ≤ v10) <|
   ge (v7[v10.toNat]?) fun x25 =>
   ck (0 ≤ x1.2.1) <|
   ge ((v9.set x1.1.toNat (w (x19 + x20)))[x1.2.1.toNat]?) fun _ =>
   ge ((v9.set x1.1.toNat (w (x19 + x20)))[x1.2.1.toNat]?) fun _ =>
   F28.l20 N n v0 v1 v2 v3 v4 v5 v6 v7 v8 ((v9.set x1.1.toNat (w (x19 + x20))).set x1.2.1.toNat (w (x24 - x25))) (w (v10 + 1)) k0 k1) <|
  br ((w (x3 - x4)) < r6) (k0 10) <|
  br ((w (x3 - x4)) > r7) (k0 10) <|
  ck (0 ≤ x1.1) <|
  ge (v9[x1.1.toNat]?) fun _ =>
  ge (v9[x1.1.toNat]?) fun x9 =>
  ck (0 ≤ v10) <|
  ge (v7[v10.toNat]?) fun x10 =>
  ck (0 ≤ x1.1) <|
  ge (v9[x1.1.toNat]?) fun _ =>
  ge (v9[x1.1.toNat]?) fun _ =>
  ck (0 ≤ x1.2.1) <|
  ge ((v9.set x1.1.toNat (w (x9 + x10)))[x1.2.1.toNat]?) fun _ =>
  ge ((v9.set x1.1.toNat (w (x9 + x10)))[x1.2.1.toNat]?) fun x14 =>
  ck (0 ≤ v10) <|
  ge (v7[v10.toNat]?) fun x15 =>
  ck (0 ≤ x1.2.1) <|
  ge ((v9.set x1.1.toNat (w (x9 + x10)))[x1.2.1.toNat]?) fun _ =>
  ge ((v9.set x1.1.toNat (w (x9 + x10)))[x1.2.1.toNat]?) fun _ =>
  F28.l20 N n v0 v1 v2 v3 v4 v5 v6 v7 v8 ((v9.set x1.1.toNat (w (x9 + x10))).set x1.2.1.toNat (w (x14 - x15))) (w (v10 + 1)) k0 k1
noncomputable def F28.l32 {β : Type} (N : Nat) : Nat → (List Pl) → (List Ro) → (List Fa) → (List Do) → (List Int) → (List Int) → Int → (List Int) → Int → (Int → Option β) → (List Pl → List Ro → List Fa → List Do → List Int → List Int → Int → List Int → Int → Bool → Option β) → Option β
 | 0, _, _, _, _, _, _, _, _, _, _, _ => none
 | n + 1, v0, v1, v2, v3, v4, v5, v6, v7, v8, k0, k1 =>
  bl (v8 < (v7.length : Int)) (k1 v0 v1 v2 v3 v4 v5 v6 v7 v8 (decide (v8 < (v7.length : Int)))) <|
  ck (0 ≤ v8) <|
  ge (v0[v8.toNat]?) fun x1 =>
  bl (x1.2) (
   ck (0 ≤ v8) <|
   ge (v0[v8.toNat]?) fun x6 =>
   bl (!x6.2) (F28.l32 N n v0 v1 v2 v3 v4 v5 v6 v7 (w (v8 + 1)) k0 k1) <|
   ck (0 ≤ v8) <|
   ge (v7[v8.toNat]?) fun _ =>
   ge (v7[v8.toNat]?) fun x8 =>
   br (x8 != 0) (k0 10) <|
   F28.l32 N n v0 v1 v2 v3 v4 v5 v6 v7 (w (v8 + 1)) k0 k1) <|
  ck (0 ≤ v8) <|
  ge (v4[v8.toNat]?) fun x2 =>
  br (x2 != 0) (k0 10) <|
  ck (0 ≤ v8) <|
  ge (v0[v8.toNat]?) fun x3 =>
  bl (!x3.2) (F28.l32 N n v0 v1 v2 v3 v4 v5 v6 v7 (w (v8 + 1)) k0 k1) <|
  ck (0 ≤ v8) <|
  ge (v7[v8.toNat]?) fun _ =>
  ge (v7[v8.toNat]?) fun x5 =>
  br (x5 != 0) (k0 10) <|
  F28.l32 N n v0 v1 v2 v3 v4 v5 v6 v7 (w (v8 + 1)) k0 k1
noncomputable def F28.K {β : Type} (N : Nat) (a0 : List Pl) (a1 : List Ro) (a2 : List Fa) (a3 : List Do) (a4 a5 a6 a7 : List Int) (k0 : Int → Option β) : Option β :=
 F18.C N a0 a1 a2 a3 fun r1 =>
 br (r1 != 0) (k0 r1) <|
 F20.C N a0 a1 a2 a3 a4 a5 fun r2 =>
 br (!r2) (k0 21) <|
 br ((a6.length : Int) != (a0.length : Int)) (k0 11) <|
 br ((a7.length : Int) != (a1.length : Int)) (k0 11) <|
 F28.l9 N N a0 a1 a2 a3 a4 a5 a6 a7 0 0 (fun z3 => k0 z3) fun z4 z5 z6 z7 z8 z9 z10 z11 z12 _ _ =>
 F28.l14 N N z4 z5 z6 z7 z8 z9 z10 z11 z12 0 (fun z15 => k0 z15) fun z16 z17 z18 z19 z20 z21 z22 z23 z24 _ _ =>
 ck ((z22.length : Int) = (z22.length : Int)) <|
 ck (0 ≤ (z22.length : Int)) <|
 ck ((z22.length : Int) ≤ 1000000000) <|
 F28.l20 N N z16 z17 z18 z19 z20 z21 z22 z23 z24 (List.replicate (Int.toNat (z22.length : Int)) 0) 0 (fun z53 => k0 z53) fun z54 z55 z56 z57 _ _ z60 z61 z62 z63 _ _ =>
 F28.l32 N N z54 z55 z56 z57 z60 z61 z62 z63 0 (fun z66 => k0 z66) fun _ _ _ _ _ _ _ _ _ _ =>
 k0 0
noncomputable def F28.fx : Fx := ⟨Try.prog, [], [], [(0,[3,4,5,6]),(1,[3,4,5,6,7]),(2,[3,4,5,6,7,19]),(3,[6]),(4,[3,4,5,6,24]),(5,[6]),(6,[3,4,5,6,42]),(7,[6]),(8,[3,4,5,6,8]),(9,[3,4,5,6,8,47]),(10,[3,4,5,6,8]),(11,[3,4,5,6,8,63]),(12,[6]),(13,[3,4,5,6,9]),(14,[3,4,5,6,9,68]),(15,[3,4,5,6,9]),(16,[3,4,5,6,9,84]),(17,[6]),(18,[3,4,5,6,10]),(19,[3,4,5,6,10,11]),(20,[3,4,5,6,10,11,93]),(21,[3,4,5,6,10,11]),(22,[3,4,5,6,10,11,12]),(23,[3,4,5,6,10,11,12,111]),(24,[6]),(25,[3,4,5,6,10,11,12,13]),(26,[3,4,5,6,10,11,12,13,14]),(27,[3,4,5,6,10,11,12,148]),(28,[6]),(29,[3,4,5,6,10,11,12]),(30,[3,4,5,6,10,11]),(31,[3,5,6,10,15]),(32,[3,5,6,10,15,176]),(33,[3,5,6,10,15]),(34,[3,5,6,10,15,210]),(35,[6]),(36,[6])], 211, []⟩
noncomputable def F28.cs (N : Nat) : List (Ctr Try.prog) := [F18.X N, F20.X N, F24.X N]
abbrev F28.s9 : Sh := [(6, .one (.addr 3 0)), (7, .slot false [.lst .frz 70 kd1, .lst .frz 64 kd8, .lst .frz 44 kd11, .lst .frz 46 kd13]), (8, .one (.addr 4 0)), (9, .slot false [.lst .frz 3 .i, .lst .frz 3 .i]), (10, .one (.addr 5 0)), (11, .slot false [.lst .frz 3 .i, .lst .frz 3 .i]), (12, .one .i), (16, .one .i)]
abbrev F28.e9_0 : Sh := [(12, .one .i)]
abbrev F28.e9_1 : Sh := [(6, .one (.addr 3 0)), (7, .slot false [.lst .frz 70 kd1, .lst .frz 64 kd8, .lst .frz 44 kd11, .lst .frz 46 kd13]), (8, .one (.addr 4 0)), (9, .slot false [.lst .frz 3 .i, .lst .frz 3 .i]), (10, .one (.addr 5 0)), (11, .slot false [.lst .frz 3 .i, .lst .frz 3 .i]), (12, .one .i), (16, .one .i), (94, .one .bool)]
noncomputable def F28.X9 (N : Nat) : LpC Try.prog F28.fx := mkL (F28.cs N) [] ((loopsOf (bodyOf Try.f28)).getD 0 .skip) 9 (by kernel_rfl) (by kernel_rfl) (by kernel_rfl) F28.s9 (fun n x k => F28.l9 N n x.1 x.2.1 x.2.2.1 x.2.2.2.1 x.2.2.2.2.1 x.2.2.2.2.2.1 x.2.2.2.2.2.2.1 x.2.2.2.2.2.2.2.1 x.2.2.2.2.2.2.2.2.1 x.2.2.2.2.2.2.2.2.2.1 (fun r0 => k (.ret) (Sh.mk F28.e9_0 (r0, ()))) (fun r0 r1 r2 r3 r4 r5 r6 r7 r8 r9 r10 => k (.exit 0) (Sh.mk F28.e9_1 (r0, r1, r2, r3, r4, r5, r6, r7, r8, r9, r10, ())))) (fun _ _ => rfl) (fun _ _ _ => by kernel_rfl) N
abbrev F28.s14 : Sh := [(6, .one (.addr 3 0)), (7, .slot false [.lst .frz 70 kd1, .lst .frz 64 kd8, .lst .frz 44 kd11, .lst .frz 46 kd13]), (8, .one (.addr 4 0)), (9, .slot false [.lst .frz 3 .i, .lst .frz 3 .i]), (10, .one (.addr 5 0)), (11, .slot false [.lst .frz 3 .i, .lst .frz 3 .i]), (12, .one .i), (18, .one .i)]
abbrev F28.e14_0 : Sh := [(12, .one .i)]
abbrev F28.e14_1 : Sh := [(6, .one (.addr 3 0)), (7, .slot false [.lst .frz 70 kd1, .lst .frz 64 kd8, .lst .frz 44 kd11, .lst .frz 46 kd13]), (8, .one (.addr 4 0)), (9, .slot false [.lst .frz 3 .i, .lst .frz 3 .i]), (10, .one (.addr 5 0)), (11, .slot false [.lst .frz 3 .i, .lst .frz 3 .i]), (12, .one .i), (18, .one .i), (136, .one .bool)]
noncomputable def F28.X14 (N : Nat) : LpC Try.prog F28.fx := mkL (F28.cs N) [] ((loopsOf (bodyOf Try.f28)).getD 1 .skip) 14 (by kernel_rfl) (by kernel_rfl) (by kernel_rfl) F28.s14 (fun n x k => F28.l14 N n x.1 x.2.1 x.2.2.1 x.2.2.2.1 x.2.2.2.2.1 x.2.2.2.2.2.1 x.2.2.2.2.2.2.1 x.2.2.2.2.2.2.2.1 x.2.2.2.2.2.2.2.2.1 x.2.2.2.2.2.2.2.2.2.1 (fun r0 => k (.ret) (Sh.mk F28.e14_0 (r0, ()))) (fun r0 r1 r2 r3 r4 r5 r6 r7 r8 r9 r10 => k (.exit 2) (Sh.mk F28.e14_1 (r0, r1, r2, r3, r4, r5, r6, r7, r8, r9, r10, ())))) (fun _ _ => rfl) (fun _ _ _ => by kernel_rfl) N
abbrev F28.s20 : Sh := [(6, .one (.addr 3 0)), (7, .slot false [.lst .frz 70 kd1, .lst .frz 64 kd8, .lst .frz 44 kd11, .lst .frz 46 kd13]), (8, .one (.addr 4 0)), (9, .slot false [.lst .frz 3 .i, .lst .frz 3 .i]), (10, .one (.addr 5 0)), (11, .slot false [.lst .frz 3 .i, .lst .frz 3 .i]), (12, .one .i), (20, .one (.view 10 0)), (21, .slot true [.lst .own 3 .i]), (22, .one .i)]
abbrev F28.e20_0 : Sh := [(12, .one .i)]
abbrev F28.e20_1 : Sh := [(6, .one (.addr 3 0)), (7, .slot false [.lst .frz 70 kd1, .lst .frz 64 kd8, .lst .frz 44 kd11, .lst .frz 46 kd13]), (8, .one (.addr 4 0)), (9, .slot false [.lst .frz 3 .i, .lst .frz 3 .i]), (10, .one (.addr 5 0)), (11, .slot false [.lst .frz 3 .i, .lst .frz 3 .i]), (12, .one .i), (20, .one (.view 10 0)), (21, .slot true [.lst .own 3 .i]), (22, .one .i), (186, .one .bool)]
noncomputable def F28.X20 (N : Nat) : LpC Try.prog F28.fx := mkL (F28.cs N) [] ((loopsOf (bodyOf Try.f28)).getD 2 .skip) 20 (by kernel_rfl) (by kernel_rfl) (by kernel_rfl) F28.s20 (fun n x k => F28.l20 N n x.1 x.2.1 x.2.2.1 x.2.2.2.1 x.2.2.2.2.1 x.2.2.2.2.2.1 x.2.2.2.2.2.2.1 x.2.2.2.2.2.2.2.1 x.2.2.2.2.2.2.2.2.1 x.2.2.2.2.2.2.2.2.2.1 x.2.2.2.2.2.2.2.2.2.2.1 (fun r0 => k (.ret) (Sh.mk F28.e20_0 (r0, ()))) (fun r0 r1 r2 r3 r4 r5 r6 r7 r8 r9 r10 r11 => k (.exit 4) (Sh.mk F28.e20_1 (r0, r1, r2, r3, r4, r5, r6, r7, r8, r9, r10, r11, ())))) (fun _ _ => rfl) (fun _ _ _ => by kernel_rfl) N
abbrev F28.s32 : Sh := [(6, .one (.addr 3 0)), (7, .slot false [.lst .frz 70 kd1, .lst .frz 64 kd8, .lst .frz 44 kd11, .lst .frz 46 kd13]), (10, .one (.addr 5 0)), (11, .slot false [.lst .frz 3 .i, .lst .frz 3 .i]), (12, .one .i), (20, .one (.view 10 0)), (21, .slot true [.lst .own 3 .i]), (30, .one .i)]
abbrev F28.e32_0 : Sh := [(12, .one .i)]
abbrev F28.e32_1 : Sh := [(6, .one (.addr 3 0)), (7, .slot false [.lst .frz 70 kd1, .lst .frz 64 kd8, .lst .frz 44 kd11, .lst .frz 46 kd13]), (10, .one (.addr 5 0)), (11, .slot false [.lst .frz 3 .i, .lst .frz 3 .i]), (12, .one .i), (20, .one (.view 10 0)), (21, .slot true [.lst .own 3 .i]), (30, .one .i), (352, .one .bool)]
noncomputable def F28.X32 (N : Nat) : LpC Try.prog F28.fx := mkL (F28.cs N) [] ((loopsOf (bodyOf Try.f28)).getD 3 .skip) 32 (by kernel_rfl) (by kernel_rfl) (by kernel_rfl) F28.s32 (fun n x k => F28.l32 N n x.1 x.2.1 x.2.2.1 x.2.2.2.1 x.2.2.2.2.1 x.2.2.2.2.2.1 x.2.2.2.2.2.2.1 x.2.2.2.2.2.2.2.1 x.2.2.2.2.2.2.2.2.1 (fun r0 => k (.ret) (Sh.mk F28.e32_0 (r0, ()))) (fun r0 r1 r2 r3 r4 r5 r6 r7 r8 r9 => k (.exit 6) (Sh.mk F28.e32_1 (r0, r1, r2, r3, r4, r5, r6, r7, r8, r9, ())))) (fun _ _ => rfl) (fun _ _ _ => by kernel_rfl) N
noncomputable def F28.C {β : Type} (N : Nat) := (Sealed fun β => @F28.K β).1 β N
theorem F28.C_eq {β : Type} (N : Nat) : @F28.C β N = @F28.K β N := congrFun (congrFun (Sealed fun β => @F28.K β).2 β) N
noncomputable def F28.X (N : Nat) : Ctr Try.prog := mkF 28 Try.f28 F28.fx (F28.cs N) [F28.X9 N, F28.X14 N, F28.X20 N, F28.X32 N] F28.i (fun x k => F28.C N x.1 x.2.1 x.2.2.1 x.2.2.2.1 x.2.2.2.2.1 x.2.2.2.2.2.1 x.2.2.2.2.2.2.1 x.2.2.2.2.2.2.2.1 (fun r0 => k (Sh.mk F28.o0 (r0, ())))) (by intros; rw [F28.C_eq]; kernel_rfl) (by kernel_rfl) (by kernel_rfl) (by kernel_rfl) (by kernel_rfl) rfl (by kernel_rfl) rfl (by kernel_rfl) (by kernel_rfl) (by kernel_rfl) (.dead _ 28) rfl
end Go.Vi.B
/- Which states fit: the program and its reference say the same. -/
namespace Go.Vi.A
abbrev QS := List (Ro × Int)
/-- What leaves a place, less what comes. -/
def netF : QS → Int → Int
  | [], _ => 0
  | x :: t, p => (if x.1.1 = p then x.2 else 0) - (if x.1.2.1 = p then x.2 else 0) + netF t p
theorem netF_append : ∀ (a b : QS) (p : Int), netF (a ++ b) p = netF a p + netF b p
  | [], b, p => by simp [netF]
  | x :: t, b, p => by simp only [List.cons_append, netF, netF_append t b p]; omega
theorem netF_take {z : QS} {j : Nat} {x : Ro × Int} (h : z[j]? = some x) (p : Int) : netF (z.take (j + 1)) p = netF (z.take j) p + ((if x.1.1 = p then x.2 else 0) - (if x.1.2.1 = p then x.2 else 0)) := by
  rw [take_snoc h, netF_append]; simp only [netF]; omega
theorem netF_bd {M : Int} (hM : 0 ≤ M) : ∀ (z : QS) (n : Nat) (p : Int), (∀ x ∈ z, -M ≤ x.2 ∧ x.2 ≤ M) → z.length ≤ n → -(2 * M * n) ≤ netF z p ∧ netF z p ≤ 2 * M * n
  | [], n, p, _, _ => by
    have := Int.mul_nonneg (show 0 ≤ 2 * M by omega) (show (0 : Int) ≤ n by omega)
    simp only [netF]; omega
  | x :: t, 0, p, _, hl => by simp at hl
  | x :: t, n + 1, p, h, hl => by
    have ih := netF_bd hM t n p (fun y hy => h y (List.mem_cons_of_mem _ hy)) (by simp at hl; omega)
    have hx := h x List.mem_cons_self
    have e : 2 * M * ((n + 1 : Nat) : Int) = 2 * M * n + 2 * M := by rw [Int.natCast_add, Int.mul_add]; simp
    rw [e]
    simp only [netF]; split <;> split <;> omega
def prE (_ : Nat) (x : Int) : Int := if x < -70368744177664 then 1 else if x > 70368744177664 then 1 else 0
def flE (_ : Nat) (x : Int) : Int := if x < -1048576 then 1 else if x > 1048576 then 1 else 0
def cloE (xq : List Int) (i : Nat) (r : Ro) : Int := if r.2.2.2.2.2.1 = true then if xq.getD i 0 = 0 then 0 else 10 else 0
def outE (d : Int) (s : Sp) : Int := if d < s.1 then 10 else if d > s.2 then 10 else 0
def droE (dz : DS) (fz : FS) (xp xq : List Int) (i : Nat) (r : Ro) : Int := if r.2.2.2.2.2.1 = true then 0 else outE (xp.getD r.1.toNat 0 - xp.getD r.2.1.toNat 0) (drop dz fz i r (xq.getD i 0))
def cdE (dz : DS) (fz : FS) (xp xq : List Int) (i : Nat) (r : Ro) : Int := if r.2.2.2.2.2.1 = true then if xq.getD i 0 = 0 then 0 else 10 else outE (xp.getD r.1.toNat 0 - xp.getD r.2.1.toNat 0) (drop dz fz i r (xq.getD i 0))
def sumE (z : QS) (xp : List Int) (i : Nat) (p : Pl) : Int := if p.2 = true then if xp.getD i 0 = 0 then 0 else 10 else if netF z i = 0 then 0 else 10
def stE (pl : List Pl) (ro : List Ro) (dz : DS) (fz : FS) (xp xq : List Int) : Int :=
  if (xp.length : Int) = (pl.length : Int) then if (xq.length : Int) = (ro.length : Int) then thn (ferr prE 0 xp) (thn (ferr flE 0 xq) (thn (ferr (cloE xq) 0 ro) (thn (ferr (sumE (ro.zip xq) xp) 0 pl) (ferr (droE dz fz xp xq) 0 ro)))) else 11 else 11
/-- Whether a state fits. -/
def fitsE (pl : List Pl) (ro : List Ro) (fa : List Fa) (dr : List Do) (sf sd xp xq : List Int) : Int :=
  thn (airE pl ro fa dr) (if fitE fa dr sf sd = 0 then stE pl ro (dr.zip sd) (fa.zip sf) xp xq else 21)
theorem thn_10 {a b : Int} (ha : a = 0 ∨ a = 10) (hb : b = 0 ∨ b = 10) : thn a b = 0 ∨ thn a b = 10 := by
  unfold thn; split
  · exact hb
  · exact ha
theorem eq_10 {a b : Int} (ha : a = 0 ∨ a = 10) (hb : b = 0 ∨ b = 10) (h : a = 0 ↔ b = 0) : a = b := by omega
theorem outE_10 (d : Int) (s : Sp) : outE d s = 0 ∨ outE d s = 10 := by
  unfold outE; split
  · exact .inr rfl
  split
  · exact .inr rfl
  · exact .inl rfl
theorem outE_zero {d : Int} {s : Sp} : outE d s = 0 ↔ s.1 ≤ d ∧ d ≤ s.2 := by
  unfold outE; split
  · constructor
    · intro h; exact absurd h (by decide)
    · omega
  split
  · constructor
    · intro h; exact absurd h (by decide)
    · omega
  · constructor
    · omega
    · omega
theorem st_order (ro : List Ro) (pl : List Pl) (dz : DS) (fz : FS) (xp xq : List Int) (z : QS) :
    thn (ferr (cloE xq) 0 ro) (thn (ferr (sumE z xp) 0 pl) (ferr (droE dz fz xp xq) 0 ro)) = thn (ferr (cdE dz fz xp xq) 0 ro) (ferr (sumE z xp) 0 pl) := by
  have a1 := ferr_val (f := cloE xq) (e := 10) (fun i r => by unfold cloE; split <;> (try split) <;> simp) ro 0
  have a2 := ferr_val (f := sumE z xp) (e := 10) (fun i r => by unfold sumE; split <;> split <;> simp) pl 0
  have a3 := ferr_val (f := droE dz fz xp xq) (e := 10) (fun i r => by
    unfold droE; split
    · simp
    · exact outE_10 _ _) ro 0
  have a4 := ferr_val (f := cdE dz fz xp xq) (e := 10) (fun i r => by
    unfold cdE; split
    · split <;> simp
    · exact outE_10 _ _) ro 0
  refine eq_10 (thn_10 a1 (thn_10 a2 a3)) (thn_10 a4 a2) ?_
  simp only [thn_zero]
  rw [ferr_zero (f := cloE xq), ferr_zero (f := droE dz fz xp xq), ferr_zero (f := cdE dz fz xp xq)]
  have key : ∀ j r, cdE dz fz xp xq j r = 0 ↔ cloE xq j r = 0 ∧ droE dz fz xp xq j r = 0 := fun j r => by
    unfold cdE cloE droE
    cases c : r.2.2.2.2.2.1 with
    | true => simp only [if_true, and_true]
    | false => simp only [Bool.false_eq_true, if_false, true_and]
  constructor
  · rintro ⟨h1, h2, h3⟩
    exact ⟨fun j r hr => (key _ r).2 ⟨h1 j r hr, h3 j r hr⟩, h2⟩
  · rintro ⟨h1, h2⟩
    exact ⟨fun j r hr => ((key _ r).1 (h1 j r hr)).1, h2, fun j r hr => ((key _ r).1 (h1 j r hr)).2⟩
theorem pipes_err (dz : DS) (fz : FS) (xp xq : List Int) : ∀ (l : List Ro) (i k : Nat),
    ferr (fun _ (p : Pi) => outE (xp.getD p.1.1.toNat 0 - xp.getD p.1.2.1.toNat 0) (pdrop p (xq.getD p.2.1.toNat 0))) k (pipesF dz fz i l) = ferr (droE dz fz xp xq) i l
  | [], _, _ => rfl
  | r :: t, i, k => by
    simp only [pipesF, ferr, droE]
    by_cases c : r.2.2.2.2.2.1 = true
    · simp only [if_pos c, if_true]; exact pipes_err dz fz xp xq t (i + 1) k
    · simp only [if_neg c, ferr, pdrop_pOf, pipes_err dz fz xp xq t (i + 1) (k + 1)]
      simp only [pOf, Int.toNat_natCast]
      rfl
theorem pipes_mem {dz : DS} {fz : FS} : ∀ {l : List Ro} {i : Nat} {p : Pi}, p ∈ pipesF dz fz i l → ∃ (j : Nat) (r : Ro), l[j]? = some r ∧ p = pOf dz fz ((i + j : Nat) : Int) r ∧ r.2.2.2.2.2.1 = false
  | [], _, _, h => by cases h
  | r :: t, i, p, h => by
    simp only [pipesF] at h
    by_cases c : r.2.2.2.2.2.1 = true
    · rw [if_pos c] at h
      obtain ⟨j, r', h1, h2, h3⟩ := pipes_mem h
      exact ⟨j + 1, r', h1, by rw [h2, show i + 1 + j = i + (j + 1) by omega], h3⟩
    · rw [if_neg c] at h
      rcases List.mem_cons.1 h with rfl | h
      · exact ⟨0, r, rfl, rfl, by simpa using c⟩
      · obtain ⟨j, r', h1, h2, h3⟩ := pipes_mem h
        exact ⟨j + 1, r', h1, by rw [h2, show i + 1 + j = i + (j + 1) by omega], h3⟩
/-- The sums, a road further. -/
theorem net_set {n : Nat} {z : QS} {j : Nat} {x : Ro × Int} (hz : z[j]? = some x) (f0 : 0 ≤ x.1.1) (t0 : 0 ≤ x.1.2.1) (hne : x.1.1 ≠ x.1.2.1) :
    ((tab n fun p => netF (z.take j) p).set x.1.1.toNat (netF (z.take j) x.1.1 + x.2)).set x.1.2.1.toNat (netF (z.take j) x.1.2.1 - x.2) = tab n fun p => netF (z.take (j + 1)) p := by
  rw [tab_set (fun p => if p = x.1.1.toNat then netF (z.take j) x.1.1 + x.2 else netF (z.take j) p) (if_pos rfl) (fun k _ hn => if_neg hn)]
  refine tab_set _ ?_ fun k hk hn => ?_
  · have e : ((x.1.2.1.toNat : Nat) : Int) = x.1.2.1 := by omega
    rw [netF_take hz, e, if_neg hne, if_pos rfl]; omega
  · rw [netF_take hz]
    by_cases c : k = x.1.1.toNat
    · have e : ((x.1.1.toNat : Nat) : Int) = x.1.1 := by omega
      subst c
      rw [if_pos rfl, e, if_pos rfl, if_neg (by omega)]; omega
    · rw [if_neg c, if_neg (by omega), if_neg (by omega)]; omega
end Go.Vi.A
namespace Go.Vi.B
open Go.Proofs Go.Vi.A
set_option linter.unusedVariables false
set_option linter.unusedSimpArgs false
variable {β : Type} {N : Nat} (hN : 1000 ≤ N)
theorem net_get {n : Nat} {z : QS} {j : Nat} {p : Int} (h0 : 0 ≤ p) (h1 : p < n) : (tab n fun p => netF (z.take j) p)[p.toNat]? = some (netF (z.take j) p) := by
  rw [tab_get (by omega)]
  have e : ((p.toNat : Nat) : Int) = p := by omega
  rw [e]
theorem net_get2 {n : Nat} {z : QS} {j : Nat} {p q x : Int} (h0 : 0 ≤ p) (h1 : p < n) (hq : 0 ≤ q) (hne : q ≠ p) : ((tab n fun p => netF (z.take j) p).set q.toNat x)[p.toNat]? = some (netF (z.take j) p) := by
  rw [List.getElem?_set_ne (by omega), net_get h0 h1]
theorem net_rng {pl : List Pl} {ro : List Ro} {xq : List Int} (hq : ferr flE 0 xq = 0) (hn : ro.length ≤ 128) (j : Nat) (p : Int) : -268435456 ≤ netF ((ro.zip xq).take j) p ∧ netF ((ro.zip xq).take j) p ≤ 268435456 := by
  have := netF_bd (M := 1048576) (by omega) ((ro.zip xq).take j) 128 p (fun x hx => by
    have hx := (List.of_mem_zip (List.mem_of_mem_take hx)).2
    obtain ⟨i, hi⟩ := List.mem_iff_getElem?.1 hx
    have := (ferr_zero _ _).1 hq i _ hi
    unfold flE at this
    repeat' split at this
    all_goals first | (exact absurd this (by decide)) | omega) (by rw [List.length_take, List.length_zip]; omega)
  omega
theorem fl_bd {xq : List Int} (hq : ferr flE 0 xq = 0) {j : Nat} {q : Int} (h : xq[j]? = some q) : -1048576 ≤ q ∧ q ≤ 1048576 := by
  have := (ferr_zero _ _).1 hq j _ h
  unfold flE at this
  repeat' split at this
  all_goals first | (exact absurd this (by decide)) | omega
theorem pr_bd {xp : List Int} (hp : ferr prE 0 xp = 0) {j : Nat} {q : Int} (h : xp[j]? = some q) : -70368744177664 ≤ q ∧ q ≤ 70368744177664 := by
  have := (ferr_zero _ _).1 hp j _ h
  unfold prE at this
  repeat' split at this
  all_goals first | (exact absurd this (by decide)) | omega
theorem net_zero (n : Nat) (z : QS) : List.replicate n (0 : Int) = tab n fun p => netF (z.take 0) p := by
  rw [tab_rep]; rfl
include hN in
theorem branch_Fits (pl : List Pl) (ro : List Ro) (fa : List Fa) (dr : List Do) (sf sd xp xq : List Int) (k : Int → Option β) : F27.C N pl ro fa dr sf sd xp xq k = k (fitsE pl ro fa dr sf sd xp xq) := by
  rw [F27.C_eq]; unfold F27.K fitsE
  simp only [res, branch_Check hN]
  refine thnK fun c0 => ?_
  have ha := AirOk.of c0
  rw [branch_Fitting hN _ _ _ _ _ _ c0, nz]
  by_cases c1 : fitE fa dr sf sd = 0
  · have hs := SetOk.of c1
    have n1 := ha.npl; have n2 := ha.nro
    simp only [c1, decide_true, res, if_true, stE]
    refine ifK' fun l1 => ifK' fun l2 => ?_
    refine (lerr (xs := xp) prE (L := fun n i => F27.l9 N n pl ro fa dr sf sd xp xq 0 xp (xp.length : Int) (i : Int) k _) (k0 := k) (fun n => by
        simp only [F27.l9, res]; rw [if_neg (by omega)]) (fun i x hx n => by
        have hi := idx hx
        simp only [F27.l9, res, Int.toNat_natCast, hx, ge_some, w_succ (show i < 4000000000 by omega)]
        rw [if_pos (by omega), if_pos (by omega)]
        unfold prE
        exact ifE (by decide) fun _ => ifE (by decide) fun _ => out0) N 0 (by omega) (by omega)).trans (thnK fun hp => ?_)
    rw [List.drop_zero] at hp
    refine (lerr (xs := xq) flE (L := fun n i => F27.l15 N n pl ro fa dr sf sd xp xq 0 xq (xq.length : Int) (i : Int) k _) (k0 := k) (fun n => by
        simp only [F27.l15, res]; rw [if_neg (by omega)]) (fun i x hx n => by
        have hi := idx hx
        simp only [F27.l15, res, Int.toNat_natCast, hx, ge_some, w_succ (show i < 4000000000 by omega)]
        rw [if_pos (by omega), if_pos (by omega)]
        unfold flE
        exact ifE (by decide) fun _ => ifE (by decide) fun _ => out0) N 0 (by omega) (by omega)).trans (thnK fun hq => ?_)
    rw [List.drop_zero] at hq
    rw [if_pos (by omega), if_pos (by omega), Int.toNat_natCast, net_zero pl.length (ro.zip xq)]
    refine (lerr (xs := ro) (cloE xq) (L := fun n i => F27.l22 N n pl ro fa dr sf sd xp xq 0 (tab pl.length fun p => netF ((ro.zip xq).take i) p) ro (ro.length : Int) (i : Int) k _) (k0 := k) (fun n => by
        simp only [F27.l22, res]; rw [if_neg (by omega)]) (fun i r hr n => by
        have hi := idx hr
        obtain ⟨q, hqi⟩ := getl (show i < xq.length by omega)
        have hR := ha.road r (List.mem_of_getElem? hr)
        have hz := zip_get hr hqi
        have b1 := net_rng (pl := pl) hq n2 i r.1
        have b2 := net_rng (pl := pl) hq n2 i r.2.1
        have bq := fl_bd hq hqi
        have hset := net_set (n := pl.length) hz hR.frm.1 hR.to.1 hR.ne
        have g1 := net_get (z := ro.zip xq) (j := i) hR.frm.1 hR.frm.2
        have g2 := fun x => net_get2 (z := ro.zip xq) (j := i) (x := x) hR.to.1 hR.to.2 hR.frm.1 hR.ne
        simp only [F27.l22, res, Int.toNat_natCast, hr, ge_some, w_succ (show i < 4000000000 by omega), hqi, g1, g2, hR.frm.1, hR.to.1, if_true, Int.natCast_nonneg, w_id (x := netF ((ro.zip xq).take i) r.1 + q) (by omega) (by omega), w_id (x := netF ((ro.zip xq).take i) r.2.1 - q) (by omega) (by omega), hset]
        rw [if_pos (by omega)]
        unfold cloE
        rw [getD_eq hqi]
        cases hc : r.2.2.2.2.2.1 with
        | true =>
          simp only [res, if_true]
          by_cases c : q = 0
          · simp only [c, if_true]
          · simp only [c, if_false, Int.reduceEq]
        | false => simp only [res, Bool.false_eq_true, if_false, if_true]) N 0 (by omega) (by omega)).trans (thnK fun hc => ?_)
    rw [List.take_of_length_le (by rw [List.length_zip]; omega)]
    refine (lerr (xs := pl) (sumE (ro.zip xq) xp) (L := fun n i => F27.l30 N n pl ro fa dr sf sd xp xq 0 (tab pl.length fun p => netF (ro.zip xq) p) pl (pl.length : Int) (i : Int) k _) (k0 := k) (fun n => by
        simp only [F27.l30, res]; rw [if_neg (by omega)]) (fun i x hx n => by
        have hi := idx hx
        obtain ⟨p, hpi⟩ := getl (show i < xp.length by omega)
        simp only [F27.l30, res, Int.toNat_natCast, hx, hpi, tab_get hi, ge_some, w_succ (show i < 4000000000 by omega), Int.natCast_nonneg, if_true]
        rw [if_pos (by omega)]
        unfold sumE
        rw [getD_eq hpi]
        cases hs : x.2 with
        | true =>
          simp only [res, if_true, Bool.not_true]
          by_cases c : p = 0
          · simp only [c, if_true]
          · simp only [c, if_false, Int.reduceEq]
        | false =>
          simp only [res, if_true, Bool.false_eq_true, if_false, Bool.not_false]
          by_cases c : netF (ro.zip xq) i = 0
          · simp only [c, if_true]
          · simp only [c, if_false, Int.reduceEq]) N 0 (by omega) (by omega)).trans (thnK fun hsum => ?_)
    rw [make_eq hN ha hs, ← pipes_err (dr.zip sd) (fa.zip sf) xp xq ro 0 0]
    have hlen := pipesF_len (dr.zip sd) (fa.zip sf) ro 0
    refine (lerr (xs := pipesF (dr.zip sd) (fa.zip sf) 0 ro) (fun _ (p : Pi) => outE (xp.getD p.1.1.toNat 0 - xp.getD p.1.2.1.toNat 0) (pdrop p (xq.getD p.2.1.toNat 0)))
      (L := fun n i => F27.l36 N n xp xq 0 (pipesF (dr.zip sd) (fa.zip sf) 0 ro) (tab pl.length fun p => some (atF p 0 (pipesF (dr.zip sd) (fa.zip sf) 0 ro))) ((pipesF (dr.zip sd) (fa.zip sf) 0 ro).length : Int) (i : Int) k _) (k0 := k) (fun n => by
        simp only [F27.l36, res]; rw [if_neg (by omega)]) (fun i p hp' n => by
        have hi := idx hp'
        obtain ⟨j, r, hr, rfl, hc⟩ := pipes_mem (List.mem_of_getElem? hp')
        rw [Nat.zero_add] at *
        have hj := idx hr
        have hR := ha.road r (List.mem_of_getElem? hr)
        have ok := pOf_ok ha sf sd j (List.mem_of_getElem? hr)
        obtain ⟨q, hqi⟩ := getl (show j < xq.length by omega)
        obtain ⟨a, ha'⟩ := geti hR.frm.1 (show r.1 < (xp.length : Int) by have := hR.frm.2; omega)
        obtain ⟨b, hb'⟩ := geti hR.to.1 (show r.2.1 < (xp.length : Int) by have := hR.to.2; omega)
        have ba := pr_bd hp ha'; have bb := pr_bd hp hb'; have bq := fl_bd hq hqi
        have e := pipe_Drop (β := β) (N := N) hN ok (q := q) (by omega) (by omega)
        simp only [pOf] at e hp' ⊢
        simp only [F27.l36, res, Int.toNat_natCast, hp', ge_some, w_succ (show i < 4000000000 by omega), ha', hb', hqi, hR.frm.1, hR.to.1, Int.natCast_nonneg, if_true, e, w_id (x := a - b) (by omega) (by omega), getD_eq ha', getD_eq hb', getD_eq hqi]
        rw [if_pos (by omega)]
        unfold outE
        exact ifE (by decide) fun _ => ifE (by decide) fun _ => out0) N 0 (by omega) (by omega)).trans endK
  · simp only [c1, decide_false, res, Bool.not_false, if_false]
include hN in
theorem ref09_Fits (pl : List Pl) (ro : List Ro) (fa : List Fa) (dr : List Do) (sf sd xp xq : List Int) (k : Int → Option β) : F28.C N pl ro fa dr sf sd xp xq k = k (fitsE pl ro fa dr sf sd xp xq) := by
  rw [F28.C_eq]; unfold F28.K fitsE
  simp only [res, ref09_Check hN]
  refine thnK fun c0 => ?_
  have ha := AirOk.of c0
  rw [ref09_Right hN, nz]
  have er : rightE pl ro fa dr sf sd = fitE fa dr sf sd := by unfold rightE thn; rw [if_pos c0]
  rw [er]
  by_cases c1 : fitE fa dr sf sd = 0
  · have hs := SetOk.of c1
    have n1 := ha.npl; have n2 := ha.nro
    simp only [c1, decide_true, res, if_true, stE]
    refine ifK' fun l1 => ifK' fun l2 => ?_
    rw [st_order]
    refine (lerr (xs := xp) prE (L := fun n i => F28.l9 N n pl ro fa dr sf sd xp xq 0 (i : Int) k _) (k0 := k) (fun n => by
        simp only [F28.l9, res]; rw [if_neg (by omega)]) (fun i x hx n => by
        have hi := idx hx
        simp only [F28.l9, res, Int.toNat_natCast, hx, ge_some, w_succ (show i < 4000000000 by omega)]
        rw [if_pos (by omega), if_pos (by omega)]
        unfold prE
        exact ifE (by decide) fun _ => (by rw [if_pos (by omega)]; exact ifE (by decide) fun _ => out0)) N 0 (by omega) (by omega)).trans (thnK fun hp => ?_)
    rw [List.drop_zero] at hp
    refine (lerr (xs := xq) flE (L := fun n i => F28.l14 N n pl ro fa dr sf sd xp xq 0 (i : Int) k _) (k0 := k) (fun n => by
        simp only [F28.l14, res]; rw [if_neg (by omega)]) (fun i x hx n => by
        have hi := idx hx
        simp only [F28.l14, res, Int.toNat_natCast, hx, ge_some, w_succ (show i < 4000000000 by omega)]
        rw [if_pos (by omega), if_pos (by omega)]
        unfold flE
        exact ifE (by decide) fun _ => (by rw [if_pos (by omega)]; exact ifE (by decide) fun _ => out0)) N 0 (by omega) (by omega)).trans (thnK fun hq => ?_)
    rw [List.drop_zero] at hq
    rw [if_pos (by omega), if_pos (by omega), Int.toNat_natCast, net_zero xp.length (ro.zip xq)]
    refine (lerr (xs := ro) (cdE (dr.zip sd) (fa.zip sf) xp xq) (L := fun n i => F28.l20 N n pl ro fa dr sf sd xp xq 0 (tab xp.length fun p => netF ((ro.zip xq).take i) p) (i : Int) k _) (k0 := k) (fun n => by
        simp only [F28.l20, res]; rw [if_neg (by omega)]) (fun i r hr n => by
        have hi := idx hr
        obtain ⟨q, hqi⟩ := getl (show i < xq.length by omega)
        have hR := ha.road r (List.mem_of_getElem? hr)
        have hz := zip_get hr hqi
        have b1 := net_rng (pl := pl) hq n2 i r.1
        have b2 := net_rng (pl := pl) hq n2 i r.2.1
        have bq := fl_bd hq hqi
        have f1 : r.1 < (xp.length : Int) := by have := hR.frm.2; omega
        have t1 : r.2.1 < (xp.length : Int) := by have := hR.to.2; omega
        have hset := net_set (n := xp.length) hz hR.frm.1 hR.to.1 hR.ne
        have g1 := net_get (z := ro.zip xq) (j := i) hR.frm.1 f1
        have g2 := fun x => net_get2 (z := ro.zip xq) (j := i) (x := x) hR.to.1 t1 hR.frm.1 hR.ne
        obtain ⟨a, ha'⟩ := geti hR.frm.1 f1
        obtain ⟨b, hb'⟩ := geti hR.to.1 t1
        have ba := pr_bd hp ha'; have bb := pr_bd hp hb'
        simp only [F28.l20, res, Int.toNat_natCast, hr, ge_some, w_succ (show i < 4000000000 by omega), hqi, ha', hb', g1, g2, hR.frm.1, hR.to.1, if_true, Int.natCast_nonneg, w_id (x := a - b) (by omega) (by omega), w_id (x := netF ((ro.zip xq).take i) r.1 + q) (by omega) (by omega), w_id (x := netF ((ro.zip xq).take i) r.2.1 - q) (by omega) (by omega), hset, ref09_Drop hN]
        rw [if_pos (by omega)]
        unfold cdE
        rw [getD_eq hqi, getD_eq ha', getD_eq hb']
        cases hc : r.2.2.2.2.2.1 with
        | true =>
          simp only [res, if_true, Bool.not_true]
          by_cases c : q = 0
          · simp only [c, if_true]
          · simp only [c, if_false, Int.reduceEq]
        | false =>
          have ho : openB pl ro fa dr sf sd i = true := by
            unfold openB
            rw [er, c1, getD_eq (by rw [Int.toNat_natCast]; exact hr), hc, decide_eq_true (show (i : Int) ≥ 0 by omega), decide_eq_true (show (i : Int) < (ro.length : Int) by omega)]; rfl
          have hd : dropS pl ro fa dr sf sd i q = drop (dr.zip sd) (fa.zip sf) i r q := by
            unfold dropS
            rw [if_pos ho, if_neg (by omega), if_neg (by omega), getD_eq (by rw [Int.toNat_natCast]; exact hr)]
          simp only [res, Bool.false_eq_true, if_false, if_true, Bool.not_false, hd]
          unfold outE
          exact ifE (by decide) fun _ => ifE (by decide) fun _ => out0) N 0 (by omega) (by omega)).trans (thnK fun hc => ?_)
    rw [List.take_of_length_le (by rw [List.length_zip]; omega)]
    refine (lerr (xs := pl) (sumE (ro.zip xq) xp) (L := fun n i => F28.l32 N n pl ro fa dr xp xq 0 (tab xp.length fun p => netF (ro.zip xq) p) (i : Int) k _) (k0 := k) (fun n => by
        simp only [F28.l32, res, tab_len]; rw [if_neg (by omega)]) (fun i x hx n => by
        have hi := idx hx
        obtain ⟨p, hpi⟩ := getl (show i < xp.length by omega)
        simp only [F28.l32, res, Int.toNat_natCast, hx, hpi, tab_get (show i < xp.length by omega), tab_len, ge_some, w_succ (show i < 4000000000 by omega), Int.natCast_nonneg, if_true]
        rw [if_pos (by omega)]
        unfold sumE
        rw [getD_eq hpi]
        cases hs : x.2 with
        | true =>
          simp only [res, if_true, Bool.not_true]
          by_cases c : p = 0
          · simp only [c, if_true]
          · simp only [c, if_false, Int.reduceEq]
        | false =>
          simp only [res, if_true, Bool.false_eq_true, if_false, Bool.not_false]
          by_cases c : netF (ro.zip xq) i = 0
          · simp only [c, if_true]
          · simp only [c, if_false, Int.reduceEq]) N 0 (by omega) (by omega)).trans endK
  · simp only [c1, decide_false, res, Bool.not_false, if_false]
end Go.Vi.B
/- (*minecontrol/minecontroldraw.Codes).Setting -/
namespace Go.Vi.B
open Go.Proofs
set_option linter.unusedVariables false
set_option maxRecDepth 100000
abbrev F21.i : Sh := [(0, .one (.addr 0 0)), (1, .slot false [.lst .pin 5 (.int .u8), .i]), (2, .agg [.lst .frz 70 kd1, .lst .frz 64 kd8, .lst .frz 44 kd11, .lst .frz 46 kd13])]
abbrev F21.o0 : Sh := [(0, .agg [.view 0 0, .view 0 1]), (1, .slot true [.lst .own 3 .i, .lst .own 3 .i]), (2, .one (.addr 1 0)), (3, .slot false [.lst .pin 5 (.int .u8), .i])]
noncomputable def F21.l3 {β : Type} (N : Nat) : Nat → (List Int) → Int → (List Pl) → (List Ro) → (List Fa) → (List Do) → (List Int) → (List Int) → (List Int) → (List Int) → Int → (List Int → Int → List Pl → List Ro → List Fa → List Do → List Int → List Int → List Int → List Int → Int → Bool → Option β) → Option β
 | 0, _, _, _, _, _, _, _, _, _, _, _, _ => none
 | n + 1, v0, v1, v2, v3, v4, v5, v6, v7, v8, v9, v10, k0 =>
  bl (v10 < (v4.length : Int)) (k0 v0 v1 v2 v3 v4 v5 v6 v7 v8 v9 v10 (decide (v10 < (v4.length : Int)))) <|
  F12.C N v0 v1 4 fun r1 r2 r3 =>
  ck (v8.length + 1 ≤ 1000000000) <|
  F21.l3 N n r2 r3 v2 v3 v4 v5 v6 v7 (v8 ++ [(w (r1 - 1))]) v9 (w (v10 + 1)) k0
noncomputable def F21.l7 {β : Type} (N : Nat) : Nat → (List Int) → Int → (List Pl) → (List Ro) → (List Fa) → (List Do) → (List Int) → (List Int) → (List Int) → (List Int) → Int → (List Int → Int → List Pl → List Ro → List Fa → List Do → List Int → List Int → List Int → List Int → Int → Bool → Option β) → Option β
 | 0, _, _, _, _, _, _, _, _, _, _, _, _ => none
 | n + 1, v0, v1, v2, v3, v4, v5, v6, v7, v8, v9, v10, k0 =>
  bl (v10 < (v5.length : Int)) (k0 v0 v1 v2 v3 v4 v5 v6 v7 v8 v9 v10 (decide (v10 < (v5.length : Int)))) <|
  ck (0 ≤ v10) <|
  ge (v5[v10.toNat]?) fun x1 =>
  F12.C N v0 v1 (w ((x1.2.2.length : Int) + 1)) fun r2 r3 r4 =>
  ck (v9.length + 1 ≤ 1000000000) <|
  F21.l7 N n r3 r4 v2 v3 v4 v5 v6 v7 v8 (v9 ++ [(w (r2 - 1))]) (w (v10 + 1)) k0
noncomputable def F21.K {β : Type} (N : Nat) (a0 : List Int) (a1 : Int) (a2 : List Pl) (a3 : List Ro) (a4 : List Fa) (a5 : List Do) (k0 : List Int → List Int → List Int → Int → Option β) : Option β :=
 F21.l3 N N a0 a1 a2 a3 a4 a5 [] [] [] [] 0 fun z4 z5 z6 z7 z8 z9 z10 z11 z12 z13 _ _ =>
 F21.l7 N N z4 z5 z6 z7 z8 z9 z10 z11 z12 z13 0 fun z16 z17 _ _ _ _ _ _ z24 z25 _ _ =>
 k0 z24 z25 z16 z17
noncomputable def F21.fx : Fx := ⟨Try.prog, [4], [], [(0,[0,3,4]),(1,[0,3,4,5]),(2,[0,3,4,5,6]),(3,[0,3,4,5,6,12]),(4,[0,3,4,5,6]),(5,[0,3,4,5,6]),(6,[0,3,4,5,7]),(7,[0,3,4,5,7,27]),(8,[0,3,4,5,7]),(9,[0,3,4,5,7]),(10,[0,4])], 47, [0]⟩
noncomputable def F21.cs (N : Nat) : List (Ctr Try.prog) := [F12.X N]
abbrev F21.s3 : Sh := [(0, .one (.addr 0 0)), (1, .slot false [.lst .pin 5 (.int .u8), .i]), (6, .one (.addr 3 0)), (7, .slot false [.lst .frz 70 kd1, .lst .frz 64 kd8, .lst .frz 44 kd11, .lst .frz 46 kd13]), (8, .one (.addr 4 0)), (9, .slot false [.lst .own 3 .i, .lst .own 3 .i]), (10, .one (.addr 5 0)), (11, .slot false [.lst .own 3 .i, .lst .own 3 .i]), (12, .one .i)]
abbrev F21.e3_0 : Sh := [(0, .one (.addr 0 0)), (1, .slot false [.lst .pin 5 (.int .u8), .i]), (6, .one (.addr 3 0)), (7, .slot false [.lst .frz 70 kd1, .lst .frz 64 kd8, .lst .frz 44 kd11, .lst .frz 46 kd13]), (8, .one (.addr 4 0)), (9, .slot false [.lst .own 3 .i, .lst .own 3 .i]), (10, .one (.addr 5 0)), (11, .slot false [.lst .own 3 .i, .lst .own 3 .i]), (12, .one .i), (24, .one .bool)]
noncomputable def F21.X3 (N : Nat) : LpC Try.prog F21.fx := mkL (F21.cs N) [] ((loopsOf (bodyOf Try.f21)).getD 0 .skip) 3 (by kernel_rfl) (by kernel_rfl) (by kernel_rfl) F21.s3 (fun n x k => F21.l3 N n x.1 x.2.1 x.2.2.1 x.2.2.2.1 x.2.2.2.2.1 x.2.2.2.2.2.1 x.2.2.2.2.2.2.1 x.2.2.2.2.2.2.2.1 x.2.2.2.2.2.2.2.2.1 x.2.2.2.2.2.2.2.2.2.1 x.2.2.2.2.2.2.2.2.2.2.1 (fun r0 r1 r2 r3 r4 r5 r6 r7 r8 r9 r10 r11 => k (.exit 0) (Sh.mk F21.e3_0 (r0, r1, r2, r3, r4, r5, r6, r7, r8, r9, r10, r11, ())))) (fun _ _ => rfl) (fun _ _ _ => by kernel_rfl) N
abbrev F21.s7 : Sh := [(0, .one (.addr 0 0)), (1, .slot false [.lst .pin 5 (.int .u8), .i]), (6, .one (.addr 3 0)), (7, .slot false [.lst .frz 70 kd1, .lst .frz 64 kd8, .lst .frz 44 kd11, .lst .frz 46 kd13]), (8, .one (.addr 4 0)), (9, .slot false [.lst .own 3 .i, .lst .own 3 .i]), (10, .one (.addr 5 0)), (11, .slot false [.lst .own 3 .i, .lst .own 3 .i]), (14, .one .i)]
abbrev F21.e7_0 : Sh := [(0, .one (.addr 0 0)), (1, .slot false [.lst .pin 5 (.int .u8), .i]), (6, .one (.addr 3 0)), (7, .slot false [.lst .frz 70 kd1, .lst .frz 64 kd8, .lst .frz 44 kd11, .lst .frz 46 kd13]), (8, .one (.addr 4 0)), (9, .slot false [.lst .own 3 .i, .lst .own 3 .i]), (10, .one (.addr 5 0)), (11, .slot false [.lst .own 3 .i, .lst .own 3 .i]), (14, .one .i), (54, .one .bool)]
noncomputable def F21.X7 (N : Nat) : LpC Try.prog F21.fx := mkL (F21.cs N) [] ((loopsOf (bodyOf Try.f21)).getD 1 .skip) 7 (by kernel_rfl) (by kernel_rfl) (by kernel_rfl) F21.s7 (fun n x k => F21.l7 N n x.1 x.2.1 x.2.2.1 x.2.2.2.1 x.2.2.2.2.1 x.2.2.2.2.2.1 x.2.2.2.2.2.2.1 x.2.2.2.2.2.2.2.1 x.2.2.2.2.2.2.2.2.1 x.2.2.2.2.2.2.2.2.2.1 x.2.2.2.2.2.2.2.2.2.2.1 (fun r0 r1 r2 r3 r4 r5 r6 r7 r8 r9 r10 r11 => k (.exit 2) (Sh.mk F21.e7_0 (r0, r1, r2, r3, r4, r5, r6, r7, r8, r9, r10, r11, ())))) (fun _ _ => rfl) (fun _ _ _ => by kernel_rfl) N
noncomputable def F21.C {β : Type} (N : Nat) := (Sealed fun β => @F21.K β).1 β N
theorem F21.C_eq {β : Type} (N : Nat) : @F21.C β N = @F21.K β N := congrFun (congrFun (Sealed fun β => @F21.K β).2 β) N
noncomputable def F21.X (N : Nat) : Ctr Try.prog := mkF 21 Try.f21 F21.fx (F21.cs N) [F21.X3 N, F21.X7 N] F21.i (fun x k => F21.C N x.1 x.2.1 x.2.2.1 x.2.2.2.1 x.2.2.2.2.1 x.2.2.2.2.2.1 (fun r0 r1 r2 r3 => k (Sh.mk F21.o0 (r0, r1, r2, r3, ())))) (by intros; rw [F21.C_eq]; kernel_rfl) (by kernel_rfl) (by kernel_rfl) (by kernel_rfl) (by kernel_rfl) rfl (by kernel_rfl) rfl (by kernel_rfl) (by kernel_rfl) (by kernel_rfl) (.dead _ 21) rfl
end Go.Vi.B
/- (*minecontrol/minecontroldraw.Codes).equipped -/
namespace Go.Vi.B
open Go.Proofs
set_option linter.unusedVariables false
set_option maxRecDepth 100000
abbrev F32.i : Sh := [(0, .one (.addr 0 0)), (1, .slot false [.lst .pin 5 (.int .u8), .i]), (2, .one (.addr 1 0)), (3, .slot false [.lst .own 70 kd1, .lst .own 64 kd8, .lst .own 44 kd11, .lst .own 46 kd13])]
abbrev F32.o0 : Sh := [(0, .agg [.view 0 0, .view 0 1]), (1, .slot true [.lst .own 3 .i, .lst .own 3 .i]), (2, .one (.addr 1 0)), (3, .slot false [.lst .pin 5 (.int .u8), .i]), (4, .one (.addr 2 0)), (5, .slot false [.lst .own 70 kd1, .lst .own 64 kd8, .lst .own 44 kd11, .lst .own 46 kd13])]
noncomputable def F32.l4 {β : Type} (N : Nat) : Nat → (List Int) → Int → (List Pl) → (List Ro) → (List Fa) → (List Do) → (List Int) → (List Int) → (List Int) → (List Int) → Int → Int → (List Int → Int → List Pl → List Ro → List Fa → List Do → List Int → List Int → List Int → List Int → Int → Int → Bool → Option β) → Option β
 | 0, _, _, _, _, _, _, _, _, _, _, _, _, _ => none
 | n + 1, v0, v1, v2, v3, v4, v5, v6, v7, v8, v9, v10, v11, k0 =>
  bl (v11 > 0) (k0 v0 v1 v2 v3 v4 v5 v6 v7 v8 v9 v10 v11 false) <|
  bl (v10 > 0) (k0 v0 v1 v2 v3 v4 v5 v6 v7 v8 v9 v10 v11 (decide (v10 > 0))) <|
  F12.C N v0 v1 v10 fun r1 r2 r3 =>
  F29.C N r2 r3 3 fun r4 r5 r6 =>
  F29.C N r5 r6 3 fun r7 r8 r9 =>
  F13.C N r8 r9 fun r10 r11 r12 =>
  ck (v4.length + 1 ≤ 1000000000) <|
  F12.C N r11 r12 3 fun r13 r14 r15 =>
  ck (v8.length + 1 ≤ 1000000000) <|
  F32.l4 N n r14 r15 v2 v3 (v4 ++ [(r1, (r4, (r7, r10)))]) v5 v6 v7 (v8 ++ [r13]) v9 v10 (w (v11 - 1)) k0
noncomputable def F32.l9 {β : Type} (N : Nat) : Nat → (List Int) → Int → (List Pl) → (List Ro) → (List Fa) → (List Do) → (List Int) → (List Int) → (List Int) → (List Int) → Int → Int → (List Int → Int → List Pl → List Ro → List Fa → List Do → List Int → List Int → List Int → List Int → Int → Int → Bool → Option β) → Option β
 | 0, _, _, _, _, _, _, _, _, _, _, _, _, _ => none
 | n + 1, v0, v1, v2, v3, v4, v5, v6, v7, v8, v9, v10, v11, k0 =>
  bl (v11 > 0) (k0 v0 v1 v2 v3 v4 v5 v6 v7 v8 v9 v10 v11 false) <|
  bl (v10 > 0) (k0 v0 v1 v2 v3 v4 v5 v6 v7 v8 v9 v10 v11 (decide (v10 > 0))) <|
  F12.C N v0 v1 v10 fun r1 r2 r3 =>
  F14.C N r2 r3 r1 fun r4 r5 r6 r7 r8 =>
  ck (v5.length + 1 ≤ 1000000000) <|
  F12.C N r7 r8 (r6.length : Int) fun r9 r10 r11 =>
  ck (v9.length + 1 ≤ 1000000000) <|
  F32.l9 N n r10 r11 v2 v3 v4 (v5 ++ [(r4, (r5, r6))]) v6 v7 v8 (v9 ++ [r9]) v10 (w (v11 - 1)) k0
noncomputable def F32.K {β : Type} (N : Nat) (a0 : List Int) (a1 : Int) (a2 : List Pl) (a3 : List Ro) (a4 : List Fa) (a5 : List Do) (k0 : List Int → List Int → List Int → Int → List Pl → List Ro → List Fa → List Do → Option β) : Option β :=
 F12.C N a0 a1 3 fun r1 r2 r3 =>
 F32.l4 N N r2 r3 a2 a3 a4 a5 [] [] [] [] (a3.length : Int) r1 fun z16 z17 z18 z19 z20 z21 z22 z23 z24 z25 z26 _ _ =>
 F12.C N z16 z17 3 fun r29 r30 r31 =>
 F32.l9 N N r30 r31 z18 z19 z20 z21 z22 z23 z24 z25 z26 r29 fun z32 z33 z34 z35 z36 z37 _ _ z40 z41 _ _ _ =>
 k0 z40 z41 z32 z33 z34 z35 z36 z37
noncomputable def F32.fx : Fx := ⟨Try.prog, [4], [], [(0,[0,1,4]),(1,[0,1,4,5]),(2,[0,1,4,5,6]),(3,[0,1,4,5,6,7]),(4,[0,1,4,5,6,7,23]),(5,[0,1,4,5,6,7]),(6,[0,1,4,5,6,7]),(7,[0,1,4,5,6,7]),(8,[0,1,4,5,6,8]),(9,[0,1,4,5,6,8,59]),(10,[0,1,4,5,6,8]),(11,[0,1,4,5,6,8,9]),(12,[0,1,4,5,6,8,9]),(13,[0,1,4,5,6,8]),(14,[0,1,4])], 88, [0, 1]⟩
noncomputable def F32.cs (N : Nat) : List (Ctr Try.prog) := [F12.X N, F29.X N, F13.X N, F14.X N]
abbrev F32.s4 : Sh := [(0, .one (.addr 0 0)), (1, .slot false [.lst .pin 5 (.int .u8), .i]), (2, .one (.addr 1 0)), (3, .slot false [.lst .own 70 kd1, .lst .own 64 kd8, .lst .own 44 kd11, .lst .own 46 kd13]), (8, .one (.addr 4 0)), (9, .slot false [.lst .own 3 .i, .lst .own 3 .i]), (10, .one (.addr 5 0)), (11, .slot false [.lst .own 3 .i, .lst .own 3 .i]), (12, .one .i), (14, .one .i)]
abbrev F32.e4_0 : Sh := [(0, .one (.addr 0 0)), (1, .slot false [.lst .pin 5 (.int .u8), .i]), (2, .one (.addr 1 0)), (3, .slot false [.lst .own 70 kd1, .lst .own 64 kd8, .lst .own 44 kd11, .lst .own 46 kd13]), (8, .one (.addr 4 0)), (9, .slot false [.lst .own 3 .i, .lst .own 3 .i]), (10, .one (.addr 5 0)), (11, .slot false [.lst .own 3 .i, .lst .own 3 .i]), (12, .one .i), (14, .one .i), (46, .one .bool)]
noncomputable def F32.X4 (N : Nat) : LpC Try.prog F32.fx := mkL (F32.cs N) [] ((loopsOf (bodyOf Try.f32)).getD 0 .skip) 4 (by kernel_rfl) (by kernel_rfl) (by kernel_rfl) F32.s4 (fun n x k => F32.l4 N n x.1 x.2.1 x.2.2.1 x.2.2.2.1 x.2.2.2.2.1 x.2.2.2.2.2.1 x.2.2.2.2.2.2.1 x.2.2.2.2.2.2.2.1 x.2.2.2.2.2.2.2.2.1 x.2.2.2.2.2.2.2.2.2.1 x.2.2.2.2.2.2.2.2.2.2.1 x.2.2.2.2.2.2.2.2.2.2.2.1 (fun r0 r1 r2 r3 r4 r5 r6 r7 r8 r9 r10 r11 r12 => k (.exit 0) (Sh.mk F32.e4_0 (r0, r1, r2, r3, r4, r5, r6, r7, r8, r9, r10, r11, r12, ())))) (fun _ _ => rfl) (fun _ _ _ => by kernel_rfl) N
abbrev F32.s9 : Sh := [(0, .one (.addr 0 0)), (1, .slot false [.lst .pin 5 (.int .u8), .i]), (2, .one (.addr 1 0)), (3, .slot false [.lst .own 70 kd1, .lst .own 64 kd8, .lst .own 44 kd11, .lst .own 46 kd13]), (8, .one (.addr 4 0)), (9, .slot false [.lst .own 3 .i, .lst .own 3 .i]), (10, .one (.addr 5 0)), (11, .slot false [.lst .own 3 .i, .lst .own 3 .i]), (12, .one .i), (16, .one .i)]
abbrev F32.e9_0 : Sh := [(0, .one (.addr 0 0)), (1, .slot false [.lst .pin 5 (.int .u8), .i]), (2, .one (.addr 1 0)), (3, .slot false [.lst .own 70 kd1, .lst .own 64 kd8, .lst .own 44 kd11, .lst .own 46 kd13]), (8, .one (.addr 4 0)), (9, .slot false [.lst .own 3 .i, .lst .own 3 .i]), (10, .one (.addr 5 0)), (11, .slot false [.lst .own 3 .i, .lst .own 3 .i]), (12, .one .i), (16, .one .i), (118, .one .bool)]
noncomputable def F32.X9 (N : Nat) : LpC Try.prog F32.fx := mkL (F32.cs N) [] ((loopsOf (bodyOf Try.f32)).getD 1 .skip) 9 (by kernel_rfl) (by kernel_rfl) (by kernel_rfl) F32.s9 (fun n x k => F32.l9 N n x.1 x.2.1 x.2.2.1 x.2.2.2.1 x.2.2.2.2.1 x.2.2.2.2.2.1 x.2.2.2.2.2.2.1 x.2.2.2.2.2.2.2.1 x.2.2.2.2.2.2.2.2.1 x.2.2.2.2.2.2.2.2.2.1 x.2.2.2.2.2.2.2.2.2.2.1 x.2.2.2.2.2.2.2.2.2.2.2.1 (fun r0 r1 r2 r3 r4 r5 r6 r7 r8 r9 r10 r11 r12 => k (.exit 2) (Sh.mk F32.e9_0 (r0, r1, r2, r3, r4, r5, r6, r7, r8, r9, r10, r11, r12, ())))) (fun _ _ => rfl) (fun _ _ _ => by kernel_rfl) N
noncomputable def F32.C {β : Type} (N : Nat) := (Sealed fun β => @F32.K β).1 β N
theorem F32.C_eq {β : Type} (N : Nat) : @F32.C β N = @F32.K β N := congrFun (congrFun (Sealed fun β => @F32.K β).2 β) N
noncomputable def F32.X (N : Nat) : Ctr Try.prog := mkF 32 Try.f32 F32.fx (F32.cs N) [F32.X4 N, F32.X9 N] F32.i (fun x k => F32.C N x.1 x.2.1 x.2.2.1 x.2.2.2.1 x.2.2.2.2.1 x.2.2.2.2.2.1 (fun r0 r1 r2 r3 r4 r5 r6 r7 => k (Sh.mk F32.o0 (r0, r1, r2, r3, r4, r5, r6, r7, ())))) (by intros; rw [F32.C_eq]; kernel_rfl) (by kernel_rfl) (by kernel_rfl) (by kernel_rfl) (by kernel_rfl) rfl (by kernel_rfl) rfl (by kernel_rfl) (by kernel_rfl) (by kernel_rfl) (.dead _ 32) rfl
end Go.Vi.B
/- (*minecontrol/minecontroldraw.Codes).doubts -/
namespace Go.Vi.B
open Go.Proofs
set_option linter.unusedVariables false
set_option maxRecDepth 100000
abbrev F34.i : Sh := [(0, .one (.addr 0 0)), (1, .slot false [.lst .pin 5 (.int .u8), .i]), (2, .agg [.lst .frz 70 kd1, .lst .frz 64 kd8, .lst .frz 44 kd11, .lst .frz 46 kd13]), (4, .agg [.lst .frz 3 .i, .lst .frz 3 .i])]
abbrev F34.o0 : Sh := [(0, .agg [.view 0 0, .view 0 1]), (1, .slot true [.lst .own 3 .i, .lst .own 3 .i]), (2, .one (.addr 1 0)), (3, .slot false [.lst .pin 5 (.int .u8), .i])]
noncomputable def F34.l3 {β : Type} (N : Nat) : Nat → (List Int) → Int → (List Int) → (List Int) → (List Int) → (List Int) → (List Int) → (List Int) → Int → (List Int → Int → List Int → List Int → List Int → List Int → List Int → List Int → Int → Bool → Option β) → Option β
 | 0, _, _, _, _, _, _, _, _, _, _ => none
 | n + 1, v0, v1, v2, v3, v4, v5, v6, v7, v8, k0 =>
  bl (v8 < (v2.length : Int)) (k0 v0 v1 v2 v3 v4 v5 v6 v7 v8 (decide (v8 < (v2.length : Int)))) <|
  ck (0 ≤ v8) <|
  ge (v2[v8.toNat]?) fun x1 =>
  F29.C N v0 v1 5 fun r2 r3 r4 =>
  bl r2 (
   ck (v6.length + 1 ≤ 1000000000) <|
   F34.l3 N n r3 r4 v2 v3 v4 v5 (v6 ++ [x1]) v7 (w (v8 + 1)) k0) <|
  ck (v6.length + 1 ≤ 1000000000) <|
  F34.l3 N n r3 r4 v2 v3 v4 v5 (v6 ++ [(-1)]) v7 (w (v8 + 1)) k0
noncomputable def F34.l10 {β : Type} (N : Nat) : Nat → (List Int) → Int → (List Int) → (List Int) → (List Int) → (List Int) → (List Int) → (List Int) → Int → (List Int → Int → List Int → List Int → List Int → List Int → List Int → List Int → Int → Bool → Option β) → Option β
 | 0, _, _, _, _, _, _, _, _, _, _ => none
 | n + 1, v0, v1, v2, v3, v4, v5, v6, v7, v8, k0 =>
  bl (v8 < (v3.length : Int)) (k0 v0 v1 v2 v3 v4 v5 v6 v7 v8 (decide (v8 < (v3.length : Int)))) <|
  ck (0 ≤ v8) <|
  ge (v3[v8.toNat]?) fun x1 =>
  F29.C N v0 v1 5 fun r2 r3 r4 =>
  bl r2 (
   ck (v7.length + 1 ≤ 1000000000) <|
   F34.l10 N n r3 r4 v2 v3 v4 v5 v6 (v7 ++ [x1]) (w (v8 + 1)) k0) <|
  ck (v7.length + 1 ≤ 1000000000) <|
  F34.l10 N n r3 r4 v2 v3 v4 v5 v6 (v7 ++ [(-1)]) (w (v8 + 1)) k0
noncomputable def F34.K {β : Type} (N : Nat) (a0 : List Int) (a1 : Int) (a2 : List Pl) (a3 : List Ro) (a4 : List Fa) (a5 : List Do) (a6 a7 : List Int) (k0 : List Int → List Int → List Int → Int → Option β) : Option β :=
 F34.l3 N N a0 a1 a6 a7 [] [] [] [] 0 fun z5 z6 z7 z8 z9 z10 z11 z12 _ _ =>
 F34.l10 N N z5 z6 z7 z8 z9 z10 z11 z12 0 fun z15 z16 _ _ _ _ z21 z22 _ _ =>
 k0 z21 z22 z15 z16
noncomputable def F34.fx : Fx := ⟨Try.prog, [6], [], [(0,[0,5,6]),(1,[0,5,6,7]),(2,[0,5,6,7,8]),(3,[0,5,6,7,8,16]),(4,[0,5,6,7,8]),(5,[0,5,6,7,8,9]),(6,[0,5,6,7,8,9,25]),(7,[0,5,6,7,8,9]),(8,[0,5,6,7,8]),(9,[0,5,6,7,10]),(10,[0,5,6,7,10,36]),(11,[0,5,6,7,10]),(12,[0,5,6,7,10,11]),(13,[0,5,6,7,10,11,45]),(14,[0,5,6,7,10,11]),(15,[0,5,6,7,10]),(16,[0,6])], 53, [0]⟩
noncomputable def F34.cs (N : Nat) : List (Ctr Try.prog) := [F29.X N]
abbrev F34.s3 : Sh := [(0, .one (.addr 0 0)), (1, .slot false [.lst .pin 5 (.int .u8), .i]), (10, .one (.addr 5 0)), (11, .slot false [.lst .frz 3 .i, .lst .frz 3 .i]), (12, .one (.addr 6 0)), (13, .slot false [.lst .own 3 .i, .lst .own 3 .i]), (14, .one (.addr 7 0)), (15, .slot false [.lst .own 3 .i, .lst .own 3 .i]), (16, .one .i)]
abbrev F34.e3_0 : Sh := [(0, .one (.addr 0 0)), (1, .slot false [.lst .pin 5 (.int .u8), .i]), (10, .one (.addr 5 0)), (11, .slot false [.lst .frz 3 .i, .lst .frz 3 .i]), (12, .one (.addr 6 0)), (13, .slot false [.lst .own 3 .i, .lst .own 3 .i]), (14, .one (.addr 7 0)), (15, .slot false [.lst .own 3 .i, .lst .own 3 .i]), (16, .one .i), (32, .one .bool)]
noncomputable def F34.X3 (N : Nat) : LpC Try.prog F34.fx := mkL (F34.cs N) [] ((loopsOf (bodyOf Try.f34)).getD 0 .skip) 3 (by kernel_rfl) (by kernel_rfl) (by kernel_rfl) F34.s3 (fun n x k => F34.l3 N n x.1 x.2.1 x.2.2.1 x.2.2.2.1 x.2.2.2.2.1 x.2.2.2.2.2.1 x.2.2.2.2.2.2.1 x.2.2.2.2.2.2.2.1 x.2.2.2.2.2.2.2.2.1 (fun r0 r1 r2 r3 r4 r5 r6 r7 r8 r9 => k (.exit 0) (Sh.mk F34.e3_0 (r0, r1, r2, r3, r4, r5, r6, r7, r8, r9, ())))) (fun _ _ => rfl) (fun _ _ _ => by kernel_rfl) N
abbrev F34.s10 : Sh := [(0, .one (.addr 0 0)), (1, .slot false [.lst .pin 5 (.int .u8), .i]), (10, .one (.addr 5 0)), (11, .slot false [.lst .frz 3 .i, .lst .frz 3 .i]), (12, .one (.addr 6 0)), (13, .slot false [.lst .own 3 .i, .lst .own 3 .i]), (14, .one (.addr 7 0)), (15, .slot false [.lst .own 3 .i, .lst .own 3 .i]), (20, .one .i)]
abbrev F34.e10_0 : Sh := [(0, .one (.addr 0 0)), (1, .slot false [.lst .pin 5 (.int .u8), .i]), (10, .one (.addr 5 0)), (11, .slot false [.lst .frz 3 .i, .lst .frz 3 .i]), (12, .one (.addr 6 0)), (13, .slot false [.lst .own 3 .i, .lst .own 3 .i]), (14, .one (.addr 7 0)), (15, .slot false [.lst .own 3 .i, .lst .own 3 .i]), (20, .one .i), (72, .one .bool)]
noncomputable def F34.X10 (N : Nat) : LpC Try.prog F34.fx := mkL (F34.cs N) [] ((loopsOf (bodyOf Try.f34)).getD 1 .skip) 10 (by kernel_rfl) (by kernel_rfl) (by kernel_rfl) F34.s10 (fun n x k => F34.l10 N n x.1 x.2.1 x.2.2.1 x.2.2.2.1 x.2.2.2.2.1 x.2.2.2.2.2.1 x.2.2.2.2.2.2.1 x.2.2.2.2.2.2.2.1 x.2.2.2.2.2.2.2.2.1 (fun r0 r1 r2 r3 r4 r5 r6 r7 r8 r9 => k (.exit 2) (Sh.mk F34.e10_0 (r0, r1, r2, r3, r4, r5, r6, r7, r8, r9, ())))) (fun _ _ => rfl) (fun _ _ _ => by kernel_rfl) N
noncomputable def F34.C {β : Type} (N : Nat) := (Sealed fun β => @F34.K β).1 β N
theorem F34.C_eq {β : Type} (N : Nat) : @F34.C β N = @F34.K β N := congrFun (congrFun (Sealed fun β => @F34.K β).2 β) N
noncomputable def F34.X (N : Nat) : Ctr Try.prog := mkF 34 Try.f34 F34.fx (F34.cs N) [F34.X3 N, F34.X10 N] F34.i (fun x k => F34.C N x.1 x.2.1 x.2.2.1 x.2.2.2.1 x.2.2.2.2.1 x.2.2.2.2.2.1 x.2.2.2.2.2.2.1 x.2.2.2.2.2.2.2.1 (fun r0 r1 r2 r3 => k (Sh.mk F34.o0 (r0, r1, r2, r3, ())))) (by intros; rw [F34.C_eq]; kernel_rfl) (by kernel_rfl) (by kernel_rfl) (by kernel_rfl) (by kernel_rfl) rfl (by kernel_rfl) rfl (by kernel_rfl) (by kernel_rfl) (by kernel_rfl) (.dead _ 34) rfl
end Go.Vi.B
/- Settings, fans and doors that are made. -/
namespace Go.Vi.A
/-- Fans and doors with their true states. -/
structure Eqp (m : Nat) (fa : List Fa) (dr : List Do) (sf sd : List Int) : Prop where
  nf : fa.length ≤ 2
  nd : dr.length ≤ 2
  lf : sf.length = fa.length
  ld : sd.length = dr.length
  fan : ∀ f ∈ fa, 0 ≤ f.1 ∧ f.1 < (m : Int) ∧ Pts f.2.2.2
  door : ∀ d ∈ dr, 0 ≤ d.1 ∧ d.1 < (m : Int) ∧ d.2.1 = -1 ∧ Rst d.2.2
  f : ∀ x ∈ sf, 0 ≤ x ∧ x ≤ 2
  d : ∀ (j : Nat) d x, dr[j]? = some d → sd[j]? = some x → 0 ≤ x ∧ x < (d.2.2.length : Int)
/-- A state that is doubted, or not. -/
structure Dbt (s s' : List Int) : Prop where
  len : s'.length = s.length
  or : ∀ (j : Nat) x x', s[j]? = some x → s'[j]? = some x' → x' = x ∨ x' = -1
theorem SetOk.fit {fa : List Fa} {dr : List Do} {sf sd : List Int} (h : SetOk fa dr sf sd) : fitE fa dr sf sd = 0 := by
  unfold fitE
  rw [if_pos (by have := h.lf; omega), if_pos (by have := h.ld; omega), thn_zero, ferr_zero, ferr_zero]
  refine ⟨fun j x hx => ?_, fun j x hx => ?_⟩
  · have := h.f x (List.mem_of_getElem? hx)
    unfold stF; rw [if_neg (by omega), if_neg (by omega)]
  · obtain ⟨d, hd⟩ := getl (show j < dr.length by have := idx hx; rw [← h.ld]; exact this)
    have := h.d j d x hd hx
    unfold stD; rw [Nat.zero_add, getD_eq hd, if_neg (by omega), if_neg (by omega)]
theorem SetOk.snocF {fa : List Fa} {dr : List Do} {sf sd : List Int} {f : Fa} {x : Int} (h : SetOk fa dr sf sd) (h0 : -1 ≤ x) (h1 : x ≤ 2) : SetOk (fa ++ [f]) dr (sf ++ [x]) sd :=
  ⟨by simp [h.lf], h.ld, fun y hy => by
    rcases List.mem_append.1 hy with hy | hy
    · exact h.f y hy
    · simp only [List.mem_singleton] at hy; omega, h.d⟩
theorem SetOk.snocD {fa : List Fa} {dr : List Do} {sf sd : List Int} {d : Do} {x : Int} (h : SetOk fa dr sf sd) (h0 : -1 ≤ x) (h1 : x < (d.2.2.length : Int)) : SetOk fa (dr ++ [d]) sf (sd ++ [x]) :=
  ⟨h.lf, by simp [h.ld], h.f, fun j e y he hy => by
    rcases snoc_get he with ⟨hj, he⟩ | ⟨hj, rfl⟩
    · rcases snoc_get hy with ⟨hj', hy⟩ | ⟨hj', rfl⟩
      · exact h.d j e y he hy
      · have := h.ld; omega
    · rcases snoc_get hy with ⟨hj', hy⟩ | ⟨hj', rfl⟩
      · have := h.ld; omega
      · exact ⟨h0, h1⟩⟩
theorem Dbt.snoc {s s' : List Int} {x x' : Int} (h : Dbt s s') (hx : x' = x ∨ x' = -1) : Dbt (s ++ [x]) (s' ++ [x']) :=
  ⟨by simp [h.len], fun j y y' hy hy' => by
    rcases snoc_get hy with ⟨hj, hy⟩ | ⟨hj, rfl⟩
    · rcases snoc_get hy' with ⟨hj', hy'⟩ | ⟨hj', rfl⟩
      · exact h.or j y y' hy hy'
      · have := h.len; omega
    · rcases snoc_get hy' with ⟨hj', hy'⟩ | ⟨hj', rfl⟩
      · have := h.len; omega
      · exact hx⟩
end Go.Vi.A
namespace Go.Vi.B
open Go.Proofs Go.Vi.A
set_option linter.unusedVariables false
set_option linter.unusedSimpArgs false
variable {β : Type} {N : Nat} (hN : 1000 ≤ N)
include hN in
theorem draw_Setting {l : List Int} {a : Int} (h : Cod l a) (pl : List Pl) (ro : List Ro) {fa : List Fa} {dr : List Do} (hf : fa.length ≤ 500) (hd : dr.length ≤ 500) (hr : ∀ d ∈ dr, d.2.2.length ≤ 500) :
    ∃ sf sd a', Cod l a' ∧ SetOk fa dr sf sd ∧ ∀ k : List Int → List Int → List Int → Int → Option β, F21.C N l a pl ro fa dr k = k sf sd l a' := by
  obtain ⟨⟨a1, sf⟩, ⟨c1, s1⟩, e1⟩ := lfor (len := fa.length) (δ := (List Int → Int → List Pl → List Ro → List Fa → List Do → List Int → List Int → List Int → List Int → Int → Bool → Option β) → Option β)
    (L := fun n j (m : Int × List Int) K => F21.l3 N n l m.1 pl ro fa dr [] [] m.2 [] (j : Int) K) (k := fun m K => K l m.1 pl ro fa dr [] [] m.2 [] (fa.length : Int) false)
    (fun j m => Cod l m.1 ∧ SetOk (fa.take j) [] m.2 [])
    (fun n m hm => funext fun K => by simp only [F21.l3, res, Int.lt_irrefl, if_false, decide_false])
    (fun j m hj hm => by
      obtain ⟨r, a', hc, hn, e⟩ := draw_Next (β := β) (N := N) hm.1 4
      have r0 := hn.lo; have r1 := hn.hi (by omega)
      obtain ⟨f, hx⟩ := getl hj
      refine ⟨(a', m.2 ++ [r - 1]), ⟨hc, by rw [take_snoc hx]; exact hm.2.snocF (by omega) (by omega)⟩, fun n => funext fun K => ?_⟩
      have hl := hm.2.lf
      rw [List.length_take] at hl
      simp only [F21.l3, res, e, w_succ (show j < 4000000000 by omega), w_id (x := r - 1) (by omega) (by omega)]
      rw [if_pos (by omega), if_pos (by omega)]) 0 (a, []) N ⟨h, ⟨rfl, rfl, by simp, by simp⟩⟩ (by omega) (by omega)
  obtain ⟨⟨a2, sd⟩, ⟨c2, s2⟩, e2⟩ := lfor (len := dr.length) (δ := (List Int → Int → List Pl → List Ro → List Fa → List Do → List Int → List Int → List Int → List Int → Int → Bool → Option β) → Option β)
    (L := fun n j (m : Int × List Int) K => F21.l7 N n l m.1 pl ro fa dr [] [] sf m.2 (j : Int) K) (k := fun m K => K l m.1 pl ro fa dr [] [] sf m.2 (dr.length : Int) false)
    (fun j m => Cod l m.1 ∧ SetOk [] (dr.take j) [] m.2)
    (fun n m hm => funext fun K => by simp only [F21.l7, res, Int.lt_irrefl, if_false, decide_false])
    (fun j m hj hm => by
      obtain ⟨d, hx⟩ := getl hj
      have hl6 := hr d (List.mem_of_getElem? hx)
      obtain ⟨r, a', hc, hn, e⟩ := draw_Next (β := β) (N := N) hm.1 ((d.2.2.length : Int) + 1)
      have r0 := hn.lo; have r1 := hn.hi (by omega)
      refine ⟨(a', m.2 ++ [r - 1]), ⟨hc, by rw [take_snoc hx]; exact hm.2.snocD (by omega) (by omega)⟩, fun n => funext fun K => ?_⟩
      have hl := hm.2.ld
      rw [List.length_take] at hl
      simp only [F21.l7, res, Int.toNat_natCast, hx, ge_some, w_id (x := (d.2.2.length : Int) + 1) (by omega) (by omega), e, w_succ (show j < 4000000000 by omega), w_id (x := r - 1) (by omega) (by omega)]
      rw [if_pos (by omega), if_pos (by omega), if_pos (by omega)]) 0 (a1, []) N ⟨c1, ⟨rfl, rfl, by simp, by simp⟩⟩ (by omega) (by omega)
  rw [List.take_of_length_le (Nat.le_refl _)] at s1 s2
  refine ⟨sf, sd, a2, c2, ⟨s1.lf, s2.ld, s1.f, s2.d⟩, fun k => ?_⟩
  rw [F21.C_eq]; unfold F21.K
  exact (congrFun e1 _).trans (congrFun e2 _)
include hN in
theorem draw_doubts {l : List Int} {a : Int} (h : Cod l a) (pl : List Pl) (ro : List Ro) (fa : List Fa) (dr : List Do) {sf sd : List Int} (hf : sf.length ≤ 500) (hd : sd.length ≤ 500) :
    ∃ sf' sd' a', Cod l a' ∧ Dbt sf sf' ∧ Dbt sd sd' ∧ ∀ k : List Int → List Int → List Int → Int → Option β, F34.C N l a pl ro fa dr sf sd k = k sf' sd' l a' := by
  obtain ⟨⟨a1, sf'⟩, ⟨c1, s1⟩, e1⟩ := lfor (len := sf.length) (δ := (List Int → Int → List Int → List Int → List Int → List Int → List Int → List Int → Int → Bool → Option β) → Option β)
    (L := fun n j (m : Int × List Int) K => F34.l3 N n l m.1 sf sd [] [] m.2 [] (j : Int) K) (k := fun m K => K l m.1 sf sd [] [] m.2 [] (sf.length : Int) false)
    (fun j m => Cod l m.1 ∧ Dbt (sf.take j) m.2)
    (fun n m hm => funext fun K => by simp only [F34.l3, res, Int.lt_irrefl, if_false, decide_false])
    (fun j m hj hm => by
      obtain ⟨b, a', hc, e⟩ := draw_One (β := β) (N := N) hm.1 5
      obtain ⟨x, hx⟩ := getl hj
      have hl := hm.2.len
      rw [List.length_take] at hl
      refine ⟨(a', m.2 ++ [if b = true then -1 else x]), ⟨hc, by rw [take_snoc hx]; exact hm.2.snoc (by split <;> simp)⟩, fun n => funext fun K => ?_⟩
      simp only [F34.l3, res, Int.toNat_natCast, hx, ge_some, e, w_succ (show j < 4000000000 by omega)]
      rw [if_pos (by omega), if_pos (by omega)]
      cases b
      · simp only [res, Bool.false_eq_true, if_false]; rw [if_pos (by omega)]
      · simp only [res, if_true]; rw [if_pos (by omega)]) 0 (a, []) N ⟨h, ⟨rfl, by simp⟩⟩ (by omega) (by omega)
  obtain ⟨⟨a2, sd'⟩, ⟨c2, s2⟩, e2⟩ := lfor (len := sd.length) (δ := (List Int → Int → List Int → List Int → List Int → List Int → List Int → List Int → Int → Bool → Option β) → Option β)
    (L := fun n j (m : Int × List Int) K => F34.l10 N n l m.1 sf sd [] [] sf' m.2 (j : Int) K) (k := fun m K => K l m.1 sf sd [] [] sf' m.2 (sd.length : Int) false)
    (fun j m => Cod l m.1 ∧ Dbt (sd.take j) m.2)
    (fun n m hm => funext fun K => by simp only [F34.l10, res, Int.lt_irrefl, if_false, decide_false])
    (fun j m hj hm => by
      obtain ⟨b, a', hc, e⟩ := draw_One (β := β) (N := N) hm.1 5
      obtain ⟨x, hx⟩ := getl hj
      have hl := hm.2.len
      rw [List.length_take] at hl
      refine ⟨(a', m.2 ++ [if b = true then -1 else x]), ⟨hc, by rw [take_snoc hx]; exact hm.2.snoc (by split <;> simp)⟩, fun n => funext fun K => ?_⟩
      simp only [F34.l10, res, Int.toNat_natCast, hx, ge_some, e, w_succ (show j < 4000000000 by omega)]
      rw [if_pos (by omega), if_pos (by omega)]
      cases b
      · simp only [res, Bool.false_eq_true, if_false]; rw [if_pos (by omega)]
      · simp only [res, if_true]; rw [if_pos (by omega)]) 0 (a1, []) N ⟨c1, ⟨rfl, by simp⟩⟩ (by omega) (by omega)
  rw [List.take_of_length_le (Nat.le_refl _)] at s1 s2
  refine ⟨sf', sd', a2, c2, s1, s2, fun k => ?_⟩
  rw [F34.C_eq]; unfold F34.K
  exact (congrFun e1 _).trans (congrFun e2 _)
include hN in
theorem draw_equipped {l : List Int} {a : Int} (h : Cod l a) (pl : List Pl) {ro : List Ro} (hr : ro.length ≤ 500) :
    ∃ sf sd fa dr a', Cod l a' ∧ Eqp ro.length fa dr sf sd ∧ ∀ k : List Int → List Int → List Int → Int → List Pl → List Ro → List Fa → List Do → Option β, F32.C N l a pl ro [] [] k = k sf sd l a' pl ro fa dr := by
  obtain ⟨n1, a1, c1, x1, e1⟩ := draw_Next (β := β) (N := N) h 3
  obtain ⟨d, rfl⟩ := Int.eq_ofNat_of_zero_le x1.lo
  have hd2 := x1.hi (by omega)
  have key1 : ∀ (d : Nat) (fa : List Fa) (sf : List Int) (a : Int), Cod l a → fa.length + d ≤ 2 → Eqp ro.length fa [] sf [] → ∃ fa' sf' a', Cod l a' ∧ Eqp ro.length fa' [] sf' [] ∧ ∀ n, d < n → ∀ K : List Int → Int → List Pl → List Ro → List Fa → List Do → List Int → List Int → List Int → List Int → Int → Option β,
      F32.l4 N n l a pl ro fa [] [] [] sf [] (ro.length : Int) (d : Int) (fun z1 z2 z3 z4 z5 z6 z7 z8 z9 z10 z11 _ _ => K z1 z2 z3 z4 z5 z6 z7 z8 z9 z10 z11) = K l a' pl ro fa' [] [] [] sf' [] (ro.length : Int) := by
    intro d
    induction d with
    | zero =>
      intro fa sf a hc _ hq
      refine ⟨fa, sf, a, hc, hq, fun n hn K => ?_⟩
      obtain ⟨n, rfl⟩ : ∃ m, n = m + 1 := ⟨n - 1, by omega⟩
      simp only [F32.l4, res, Int.natCast_zero, gt_iff_lt, Int.lt_irrefl, if_false, decide_false]
    | succ d ih =>
      intro fa sf a hc hl hq
      by_cases c0 : ro.length = 0
      · refine ⟨fa, sf, a, hc, hq, fun n hn K => ?_⟩
        obtain ⟨n, rfl⟩ : ∃ m, n = m + 1 := ⟨n - 1, by omega⟩
        simp only [F32.l4, res]
        rw [if_pos (by omega), if_neg (by omega)]
      obtain ⟨r, a1, c1, y1, e1⟩ := draw_Next (β := β) (N := N) hc (ro.length : Int)
      obtain ⟨b, a2, c2, e2⟩ := draw_One (β := β) (N := N) c1 3
      obtain ⟨b', a3, c3, e3⟩ := draw_One (β := β) (N := N) c2 3
      obtain ⟨xs, a4, c4, p4, e4⟩ := draw_Curve (β := β) hN c3
      obtain ⟨s, a5, c5, y5, e5⟩ := draw_Next (β := β) (N := N) c4 3
      have r0 := y1.lo; have r1 := y1.hi (by omega); have s0 := y5.lo; have s1 := y5.hi (by omega)
      have lf := hq.lf
      obtain ⟨fa', sf', a', hc', hq', e⟩ := ih (fa ++ [(r, (b, (b', xs)))]) (sf ++ [s]) a5 c5 (by simp; omega) ⟨by simp; omega, hq.nd, by simp [hq.lf], hq.ld, fun f hf => by
          rcases List.mem_append.1 hf with hf | hf
          · exact hq.fan f hf
          · simp only [List.mem_singleton] at hf; subst hf; exact ⟨r0, r1, p4⟩, hq.door, fun x hx => by
          rcases List.mem_append.1 hx with hx | hx
          · exact hq.f x hx
          · simp only [List.mem_singleton] at hx; omega, hq.d⟩
      refine ⟨fa', sf', a', hc', hq', fun n hn K => ?_⟩
      obtain ⟨n, rfl⟩ : ∃ m, n = m + 1 := ⟨n - 1, by omega⟩
      simp only [F32.l4, res, e1, e2, e3, e4, e5]
      rw [if_pos (by omega), if_pos (by omega), if_pos (by omega), if_pos (by omega), w_id (x := ((d + 1 : Nat) : Int) - 1) (by omega) (by omega), show ((d + 1 : Nat) : Int) - 1 = (d : Int) by omega]
      exact e n (by omega) K
  obtain ⟨fa, sf, a2, c2, q2, e2⟩ := key1 d [] [] a1 c1 (by simp; omega) ⟨by simp, by simp, rfl, rfl, by simp, by simp, by simp, by simp⟩
  obtain ⟨n3, a3, c3, x3, e3⟩ := draw_Next (β := β) (N := N) c2 3
  obtain ⟨d3, rfl⟩ := Int.eq_ofNat_of_zero_le x3.lo
  have hd3 := x3.hi (by omega)
  have key2 : ∀ (d : Nat) (dr : List Do) (sd : List Int) (a : Int), Cod l a → dr.length + d ≤ 2 → Eqp ro.length fa dr sf sd → ∃ dr' sd' a', Cod l a' ∧ Eqp ro.length fa dr' sf sd' ∧ ∀ n, d < n → ∀ K : List Int → Int → List Pl → List Ro → List Fa → List Do → List Int → List Int → Option β,
      F32.l9 N n l a pl ro fa dr [] [] sf sd (ro.length : Int) (d : Int) (fun z1 z2 z3 z4 z5 z6 _ _ z9 z10 _ _ _ => K z1 z2 z3 z4 z5 z6 z9 z10) = K l a' pl ro fa dr' sf sd' := by
    intro d
    induction d with
    | zero =>
      intro dr sd a hc _ hq
      refine ⟨dr, sd, a, hc, hq, fun n hn K => ?_⟩
      obtain ⟨n, rfl⟩ : ∃ m, n = m + 1 := ⟨n - 1, by omega⟩
      simp only [F32.l9, res, Int.natCast_zero, gt_iff_lt, Int.lt_irrefl, if_false, decide_false]
    | succ d ih =>
      intro dr sd a hc hl hq
      by_cases c0 : ro.length = 0
      · refine ⟨dr, sd, a, hc, hq, fun n hn K => ?_⟩
        obtain ⟨n, rfl⟩ : ∃ m, n = m + 1 := ⟨n - 1, by omega⟩
        simp only [F32.l9, res]
        rw [if_pos (by omega), if_neg (by omega)]
      obtain ⟨r, a1, c1, y1, e1⟩ := draw_Next (β := β) (N := N) hc (ro.length : Int)
      obtain ⟨xs, a2, c2, p2, e2⟩ := draw_Door (β := β) hN c1 r
      obtain ⟨s, a3, c3, y3, e3⟩ := draw_Next (β := β) (N := N) c2 (xs.length : Int)
      have t1 := p2.two; have t2 := p2.le
      have r0 := y1.lo; have r1 := y1.hi (by omega); have s0 := y3.lo; have s1 := y3.hi (by omega)
      have ld := hq.ld
      obtain ⟨dr', sd', a', hc', hq', e⟩ := ih (dr ++ [(r, (-1, xs))]) (sd ++ [s]) a3 c3 (by simp; omega) ⟨hq.nf, by simp; omega, hq.lf, by simp [hq.ld], hq.fan, fun f hf => by
          rcases List.mem_append.1 hf with hf | hf
          · exact hq.door f hf
          · simp only [List.mem_singleton] at hf; subst hf; exact ⟨r0, r1, rfl, p2⟩, hq.f, fun j e y he hy => by
          rcases snoc_get he with ⟨hj, he⟩ | ⟨hj, rfl⟩
          · rcases snoc_get hy with ⟨hj', hy⟩ | ⟨hj', rfl⟩
            · exact hq.d j e y he hy
            · omega
          · rcases snoc_get hy with ⟨hj', hy⟩ | ⟨hj', rfl⟩
            · omega
            · exact ⟨s0, s1⟩⟩
      refine ⟨dr', sd', a', hc', hq', fun n hn K => ?_⟩
      obtain ⟨n, rfl⟩ : ∃ m, n = m + 1 := ⟨n - 1, by omega⟩
      simp only [F32.l9, res, e1, e2, e3]
      rw [if_pos (by omega), if_pos (by omega), if_pos (by omega), if_pos (by omega), w_id (x := ((d + 1 : Nat) : Int) - 1) (by omega) (by omega), show ((d + 1 : Nat) : Int) - 1 = (d : Int) by omega]
      exact e n (by omega) K
  obtain ⟨dr, sd, a4, c4, q4, e4⟩ := key2 d3 [] [] a3 c3 (by simp; omega) q2
  refine ⟨sf, sd, fa, dr, a4, c4, q4, fun k => ?_⟩
  rw [F32.C_eq]; unfold F32.K
  rw [e1, e2 N (by omega), e3]
  exact e4 N (by omega) fun z1 z2 z3 z4 z5 z6 z9 z10 => k z9 z10 z1 z2 z3 z4 z5 z6
end Go.Vi.B
/- (*minecontrol/minecontroldraw.Codes).fit -/
namespace Go.Vi.B
open Go.Proofs
set_option linter.unusedVariables false
set_option maxRecDepth 100000
abbrev F33.i : Sh := [(0, .one (.addr 0 0)), (1, .slot false [.lst .pin 5 (.int .u8), .i]), (2, .one (.addr 1 0)), (3, .slot false [.lst .own 70 kd1, .lst .own 64 kd8, .lst .own 44 kd11, .lst .own 46 kd13]), (4, .agg [.lst .frz 3 .i, .lst .frz 3 .i]), (6, .agg [.lst .frz 3 .i, .lst .frz 3 .i])]
abbrev F33.o0 : Sh := [(0, .tup []), (2, .one (.addr 1 0)), (3, .slot false [.lst .pin 5 (.int .u8), .i]), (4, .one (.addr 2 0)), (5, .slot false [.lst .own 70 kd1, .lst .own 64 kd8, .lst .own 44 kd11, .lst .own 46 kd13])]
noncomputable def F33.l8 {β : Type} (N : Nat) : Nat → (List Int) → Int → (List Pl) → (List Ro) → (List Fa) → (List Do) → (List Int) → (List Int) → (List Int) → (List Int) → Int → Nat → Int → Int → Int → (List Int → Int → List Pl → List Ro → List Fa → List Do → List Int → List Int → List Int → List Int → Int → Nat → Int → Int → Int → Bool → Option β) → Option β
 | 0, _, _, _, _, _, _, _, _, _, _, _, _, _, _, _, _ => none
 | n + 1, v0, v1, v2, v3, v4, v5, v6, v7, v8, v9, v10, v11, v12, v13, v14, k0 =>
  bl (v14 < (v5.length : Int)) (k0 v0 v1 v2 v3 v4 v5 v6 v7 v8 v9 v10 v11 v12 v13 v14 (decide (v14 < (v5.length : Int)))) <|
  ck (0 ≤ v14) <|
  ge (v5[v14.toNat]?) fun _ =>
  ge (v5[v14.toNat]?) fun _ =>
  ge (v5[v14.toNat]?) fun x3 =>
  bl (x3.1 = v10) (F33.l8 N n v0 v1 v2 v3 v4 v5 v6 v7 v8 v9 v10 v11 v12 v13 (w (v14 + 1)) k0) <|
  ck (0 ≤ v14) <|
  ge (v5[v14.toNat]?) fun _ =>
  ge (v5[v14.toNat]?) fun x5 =>
  ck (0 ≤ v14) <|
  ge (v7[v14.toNat]?) fun x6 =>
  F51.C N x5.1 x5.2.1 x5.2.2 x6 fun r7 _ =>
  F33.l8 N n v0 v1 v2 v3 v4 v5 v6 v7 v8 v9 v10 v11 v12 (w (v13 + r7)) (w (v14 + 1)) k0
noncomputable def F33.l14 {β : Type} (N : Nat) : Nat → (List Int) → Int → (List Pl) → (List Ro) → (List Fa) → (List Do) → (List Int) → (List Int) → (List Int) → (List Int) → Int → Nat → Int → Int → Int → (List Int → Int → List Pl → List Ro → List Fa → List Do → List Int → List Int → List Int → List Int → Int → Nat → Int → Int → Int → Bool → Option β) → Option β
 | 0, _, _, _, _, _, _, _, _, _, _, _, _, _, _, _, _ => none
 | n + 1, v0, v1, v2, v3, v4, v5, v6, v7, v8, v9, v10, v11, v12, v13, v14, k0 =>
  bl (v14 < (v4.length : Int)) (k0 v0 v1 v2 v3 v4 v5 v6 v7 v8 v9 v10 v11 v12 v13 v14 (decide (v14 < (v4.length : Int)))) <|
  ck (0 ≤ v14) <|
  ge (v4[v14.toNat]?) fun _ =>
  ge (v4[v14.toNat]?) fun _ =>
  ge (v4[v14.toNat]?) fun x3 =>
  bl (x3.1 = v10) (F33.l14 N n v0 v1 v2 v3 v4 v5 v6 v7 v8 v9 v10 v11 v12 v13 (w (v14 + 1)) k0) <|
  ck (0 ≤ v14) <|
  ge (v4[v14.toNat]?) fun _ =>
  ge (v4[v14.toNat]?) fun x5 =>
  ck (0 ≤ v14) <|
  ge (v6[v14.toNat]?) fun x6 =>
  F52.C N x5.1 x5.2.1 x5.2.2.1 x5.2.2.2 x6 v12 fun r7 _ =>
  F33.l14 N n v0 v1 v2 v3 v4 v5 v6 v7 v8 v9 v10 v11 v12 (w (v13 - r7)) (w (v14 + 1)) k0
noncomputable def F33.l2 {β : Type} (N : Nat) : Nat → (List Int) → Int → (List Pl) → (List Ro) → (List Fa) → (List Do) → (List Int) → (List Int) → (List Int) → (List Int) → Int → (List Int → Int → List Pl → List Ro → List Fa → List Do → List Int → List Int → List Int → List Int → Int → Bool → Option β) → Option β
 | 0, _, _, _, _, _, _, _, _, _, _, _, _ => none
 | n + 1, v0, v1, v2, v3, v4, v5, v6, v7, v8, v9, v10, k0 =>
  bl (v10 < (v3.length : Int)) (k0 v0 v1 v2 v3 v4 v5 v6 v7 v8 v9 v10 (decide (v10 < (v3.length : Int)))) <|
  ck (0 ≤ v10) <|
  ge (v3[v10.toNat]?) fun _ =>
  ck (0 ≤ v10) <|
  ge (v9[v10.toNat]?) fun x2 =>
  ge (v3[v10.toNat]?) fun _ =>
  ge (v3[v10.toNat]?) fun _ =>
  ge (v3[v10.toNat]?) fun _ =>
  ge (v3[v10.toNat]?) fun x6 =>
  ge (v3[v10.toNat]?) fun _ =>
  ge (v3[v10.toNat]?) fun _ =>
  ge (v3[v10.toNat]?) fun _ =>
  ge (v3[v10.toNat]?) fun x10 =>
  ge (v3[v10.toNat]?) fun _ =>
  ge (v3[v10.toNat]?) fun _ =>
  ge (v3[v10.toNat]?) fun _ =>
  ge (v3[v10.toNat]?) fun x14 =>
  F12.C N v0 v1 (w ((w (x10.2.2.2.2.2.2.1.2 - x14.2.2.2.2.2.2.1.1)) + 1)) fun r15 r16 r17 =>
  F33.l8 N N r16 r17 v2 v3 v4 v5 v6 v7 v8 v9 v10 v10.toNat x2 (w (x6.2.2.2.2.2.2.1.1 + r15)) 0 fun z18 z19 z20 z21 z22 z23 z24 z25 z26 z27 z28 z29 z30 z31 _ _ =>
  ge (z21[z29]?) fun _ =>
  ge (z21[z29]?) fun _ =>
  ge (z21[z29]?) fun x36 =>
  ck (0 ≤ x36.1) <|
  ge (z26[x36.1.toNat]?) fun x37 =>
  ge (z21[z29]?) fun _ =>
  ge (z21[z29]?) fun _ =>
  ge (z21[z29]?) fun x40 =>
  ck (0 ≤ x40.2.1) <|
  ge (z26[x40.2.1.toNat]?) fun x41 =>
  F33.l14 N N z18 z19 z20 z21 z22 z23 z24 z25 z26 z27 z28 z29 z30 (w ((w ((w (z31 * (if (w (0 - z30)) > z30 then (w (0 - z30)) else z30))) * z30)) - (w (x37 - x41)))) 0 fun z42 z43 z44 z45 z46 z47 z48 z49 z50 z51 z52 z53 _ z55 _ _ =>
  F12.C N z42 z43 30 fun r58 r59 r60 =>
  F12.C N r59 r60 30 fun r61 r62 r63 =>
  ge (z45[z53]?) fun _ =>
  ge (z45[z53]?) fun _ =>
  ge (z45[z53]?) fun x66 =>
  F33.l2 N n r62 r63 z44 (z45.set z53 (x66.1, (x66.2.1, (x66.2.2.1, (x66.2.2.2.1, (x66.2.2.2.2.1, (x66.2.2.2.2.2.1, ((x66.2.2.2.2.2.2.1.1, x66.2.2.2.2.2.2.1.2), ((w (z55 - r58)), (w (z55 + r61))))))))))) z46 z47 z48 z49 z50 z51 (w (z52 + 1)) k0
noncomputable def F33.K {β : Type} (N : Nat) (a0 : List Int) (a1 : Int) (a2 : List Pl) (a3 : List Ro) (a4 : List Fa) (a5 : List Do) (a6 a7 a8 a9 : List Int) (k0 : List Int → Int → List Pl → List Ro → List Fa → List Do → Option β) : Option β :=
 F33.l2 N N a0 a1 a2 a3 a4 a5 a6 a7 a8 a9 0 fun z67 z68 z69 z70 z71 z72 _ _ _ _ _ _ =>
 k0 z67 z68 z69 z70 z71 z72
noncomputable def F33.fx : Fx := ⟨Try.prog, [], [], [(0,[0,1,6,7]),(1,[0,1,6,7,8]),(2,[0,1,6,7,8,22]),(3,[0,1,6,7,8]),(4,[0,1,6,7,8,9]),(5,[0,1,6,7,8,9,10]),(6,[0,1,6,7,8,9,10,11]),(7,[0,1,6,7,8,9,10,11,12]),(8,[0,1,6,7,8,9,10,11,12,63]),(9,[0,1,6,7,8,9,10,11,12]),(10,[0,1,6,7,8,9,10,11,12,75]),(11,[0,1,6,7,8,9,10,11,12]),(12,[0,1,6,7,8,9,10,13]),(13,[0,1,6,7,8,9,10,13,14]),(14,[0,1,6,7,8,9,10,13,14,124]),(15,[0,1,6,7,8,9,10,13,14]),(16,[0,1,6,7,8,9,10,13,14,136]),(17,[0,1,6,7,8,9,10,13,14]),(18,[0,1,6,7,8])], 166, [0, 1]⟩
noncomputable def F33.cs (N : Nat) : List (Ctr Try.prog) := [F12.X N, F51.X N, F52.X N]
abbrev F33.s8 : Sh := [(0, .one (.addr 0 0)), (1, .slot false [.lst .pin 5 (.int .u8), .i]), (2, .one (.addr 1 0)), (3, .slot false [.lst .own 70 kd1, .lst .own 64 kd8, .lst .own 44 kd11, .lst .own 46 kd13]), (12, .one (.addr 6 0)), (13, .slot false [.lst .frz 3 .i, .lst .frz 3 .i]), (14, .one (.addr 7 0)), (15, .slot false [.lst .frz 3 .i, .lst .frz 3 .i]), (16, .one .i), (18, .one (.eaddr 1 1 0)), (20, .one .i), (22, .one .i), (24, .one .i)]
abbrev F33.e8_0 : Sh := [(0, .one (.addr 0 0)), (1, .slot false [.lst .pin 5 (.int .u8), .i]), (2, .one (.addr 1 0)), (3, .slot false [.lst .own 70 kd1, .lst .own 64 kd8, .lst .own 44 kd11, .lst .own 46 kd13]), (12, .one (.addr 6 0)), (13, .slot false [.lst .frz 3 .i, .lst .frz 3 .i]), (14, .one (.addr 7 0)), (15, .slot false [.lst .frz 3 .i, .lst .frz 3 .i]), (16, .one .i), (18, .one (.eaddr 1 1 0)), (20, .one .i), (22, .one .i), (24, .one .i), (126, .one .bool)]
noncomputable def F33.X8 (N : Nat) : LpC Try.prog F33.fx := mkL (F33.cs N) [] ((loopsOf ((loopsOf (bodyOf Try.f33)).getD 0 .skip)).getD 0 .skip) 8 (by kernel_rfl) (by kernel_rfl) (by kernel_rfl) F33.s8 (fun n x k => F33.l8 N n x.1 x.2.1 x.2.2.1 x.2.2.2.1 x.2.2.2.2.1 x.2.2.2.2.2.1 x.2.2.2.2.2.2.1 x.2.2.2.2.2.2.2.1 x.2.2.2.2.2.2.2.2.1 x.2.2.2.2.2.2.2.2.2.1 x.2.2.2.2.2.2.2.2.2.2.1 x.2.2.2.2.2.2.2.2.2.2.2.1 x.2.2.2.2.2.2.2.2.2.2.2.2.1 x.2.2.2.2.2.2.2.2.2.2.2.2.2.1 x.2.2.2.2.2.2.2.2.2.2.2.2.2.2.1 (fun r0 r1 r2 r3 r4 r5 r6 r7 r8 r9 r10 r11 r12 r13 r14 r15 => k (.exit 2) (Sh.mk F33.e8_0 (r0, r1, r2, r3, r4, r5, r6, r7, r8, r9, r10, r11, r12, r13, r14, r15, ())))) (fun _ _ => rfl) (fun _ _ _ => by kernel_rfl) N
abbrev F33.s14 : Sh := [(0, .one (.addr 0 0)), (1, .slot false [.lst .pin 5 (.int .u8), .i]), (2, .one (.addr 1 0)), (3, .slot false [.lst .own 70 kd1, .lst .own 64 kd8, .lst .own 44 kd11, .lst .own 46 kd13]), (12, .one (.addr 6 0)), (13, .slot false [.lst .frz 3 .i, .lst .frz 3 .i]), (14, .one (.addr 7 0)), (15, .slot false [.lst .frz 3 .i, .lst .frz 3 .i]), (16, .one .i), (18, .one (.eaddr 1 1 0)), (20, .one .i), (26, .one .i), (28, .one .i)]
abbrev F33.e14_0 : Sh := [(0, .one (.addr 0 0)), (1, .slot false [.lst .pin 5 (.int .u8), .i]), (2, .one (.addr 1 0)), (3, .slot false [.lst .own 70 kd1, .lst .own 64 kd8, .lst .own 44 kd11, .lst .own 46 kd13]), (12, .one (.addr 6 0)), (13, .slot false [.lst .frz 3 .i, .lst .frz 3 .i]), (14, .one (.addr 7 0)), (15, .slot false [.lst .frz 3 .i, .lst .frz 3 .i]), (16, .one .i), (18, .one (.eaddr 1 1 0)), (20, .one .i), (26, .one .i), (28, .one .i), (248, .one .bool)]
noncomputable def F33.X14 (N : Nat) : LpC Try.prog F33.fx := mkL (F33.cs N) [] ((loopsOf ((loopsOf (bodyOf Try.f33)).getD 0 .skip)).getD 1 .skip) 14 (by kernel_rfl) (by kernel_rfl) (by kernel_rfl) F33.s14 (fun n x k => F33.l14 N n x.1 x.2.1 x.2.2.1 x.2.2.2.1 x.2.2.2.2.1 x.2.2.2.2.2.1 x.2.2.2.2.2.2.1 x.2.2.2.2.2.2.2.1 x.2.2.2.2.2.2.2.2.1 x.2.2.2.2.2.2.2.2.2.1 x.2.2.2.2.2.2.2.2.2.2.1 x.2.2.2.2.2.2.2.2.2.2.2.1 x.2.2.2.2.2.2.2.2.2.2.2.2.1 x.2.2.2.2.2.2.2.2.2.2.2.2.2.1 x.2.2.2.2.2.2.2.2.2.2.2.2.2.2.1 (fun r0 r1 r2 r3 r4 r5 r6 r7 r8 r9 r10 r11 r12 r13 r14 r15 => k (.exit 4) (Sh.mk F33.e14_0 (r0, r1, r2, r3, r4, r5, r6, r7, r8, r9, r10, r11, r12, r13, r14, r15, ())))) (fun _ _ => rfl) (fun _ _ _ => by kernel_rfl) N
abbrev F33.s2 : Sh := [(0, .one (.addr 0 0)), (1, .slot false [.lst .pin 5 (.int .u8), .i]), (2, .one (.addr 1 0)), (3, .slot false [.lst .own 70 kd1, .lst .own 64 kd8, .lst .own 44 kd11, .lst .own 46 kd13]), (12, .one (.addr 6 0)), (13, .slot false [.lst .frz 3 .i, .lst .frz 3 .i]), (14, .one (.addr 7 0)), (15, .slot false [.lst .frz 3 .i, .lst .frz 3 .i]), (16, .one .i)]
abbrev F33.e2_0 : Sh := [(0, .one (.addr 0 0)), (1, .slot false [.lst .pin 5 (.int .u8), .i]), (2, .one (.addr 1 0)), (3, .slot false [.lst .own 70 kd1, .lst .own 64 kd8, .lst .own 44 kd11, .lst .own 46 kd13]), (12, .one (.addr 6 0)), (13, .slot false [.lst .frz 3 .i, .lst .frz 3 .i]), (14, .one (.addr 7 0)), (15, .slot false [.lst .frz 3 .i, .lst .frz 3 .i]), (16, .one .i), (44, .one .bool)]
noncomputable def F33.X2 (N : Nat) : LpC Try.prog F33.fx := mkL (F33.cs N) [F33.X8 N, F33.X14 N] ((loopsOf (bodyOf Try.f33)).getD 0 .skip) 2 (by kernel_rfl) (by kernel_rfl) (by kernel_rfl) F33.s2 (fun n x k => F33.l2 N n x.1 x.2.1 x.2.2.1 x.2.2.2.1 x.2.2.2.2.1 x.2.2.2.2.2.1 x.2.2.2.2.2.2.1 x.2.2.2.2.2.2.2.1 x.2.2.2.2.2.2.2.2.1 x.2.2.2.2.2.2.2.2.2.1 x.2.2.2.2.2.2.2.2.2.2.1 (fun r0 r1 r2 r3 r4 r5 r6 r7 r8 r9 r10 r11 => k (.exit 0) (Sh.mk F33.e2_0 (r0, r1, r2, r3, r4, r5, r6, r7, r8, r9, r10, r11, ())))) (fun _ _ => rfl) (fun _ _ _ => by kernel_rfl) N
noncomputable def F33.C {β : Type} (N : Nat) := (Sealed fun β => @F33.K β).1 β N
theorem F33.C_eq {β : Type} (N : Nat) : @F33.C β N = @F33.K β N := congrFun (congrFun (Sealed fun β => @F33.K β).2 β) N
noncomputable def F33.X (N : Nat) : Ctr Try.prog := mkF 33 Try.f33 F33.fx (F33.cs N) [F33.X2 N] F33.i (fun x k => F33.C N x.1 x.2.1 x.2.2.1 x.2.2.2.1 x.2.2.2.2.1 x.2.2.2.2.2.1 x.2.2.2.2.2.2.1 x.2.2.2.2.2.2.2.1 x.2.2.2.2.2.2.2.2.1 x.2.2.2.2.2.2.2.2.2.1 (fun r0 r1 r2 r3 r4 r5 => k (Sh.mk F33.o0 (r0, r1, r2, r3, r4, r5, ())))) (by intros; rw [F33.C_eq]; kernel_rfl) (by kernel_rfl) (by kernel_rfl) (by kernel_rfl) (by kernel_rfl) rfl (by kernel_rfl) rfl (by kernel_rfl) (by kernel_rfl) (by kernel_rfl) (.dead _ 33) rfl
end Go.Vi.B
/- Lifts that are made so that a state fits. -/
namespace Go.Vi.A
/-- A road that is made. -/
structure MkRoad (n : Nat) (r : Ro) : Prop where
  frm : 0 ≤ r.1 ∧ r.1 < (n : Int)
  to : 0 ≤ r.2.1 ∧ r.2.1 < (n : Int)
  ne : r.1 ≠ r.2.1
  len : 1 ≤ r.2.2.1 ∧ r.2.2.1 ≤ 400
  area : 4 ≤ r.2.2.2.1 ∧ r.2.2.2.1 ≤ 30
  rest : 1 ≤ r.2.2.2.2.2.2.1.1 ∧ r.2.2.2.2.2.2.1.1 ≤ r.2.2.2.2.2.2.1.2 ∧ r.2.2.2.2.2.2.1.2 ≤ 22
/-- A lift with which a flow fits. -/
def lift0 (dz : DS) (fz : FS) (xp : List Int) (q i : Int) (r : Ro) (rest : Int) : Int :=
  (rest + (dsum dz i).1) * max q (-q) * q - (xp.getD r.1.toNat 0 - xp.getD r.2.1.toNat 0) - (fsum fz i q).1
structure FitR (dz : DS) (fz : FS) (xp : List Int) (q i : Int) (r r' : Ro) : Prop where
  frm : r'.1 = r.1
  to : r'.2.1 = r.2.1
  len : r'.2.2.1 = r.2.2.1
  area : r'.2.2.2.1 = r.2.2.2.1
  closed : r'.2.2.2.2.2.1 = r.2.2.2.2.2.1
  rest : r'.2.2.2.2.2.2.1 = r.2.2.2.2.2.2.1
  lift : ∃ rest c1 c2, r.2.2.2.2.2.2.1.1 ≤ rest ∧ rest ≤ r.2.2.2.2.2.2.1.2 ∧ (0 ≤ c1 ∧ c1 ≤ 29) ∧ (0 ≤ c2 ∧ c2 ≤ 29) ∧ r'.2.2.2.2.2.2.2 = (lift0 dz fz xp q i r rest - c1, lift0 dz fz xp q i r rest + c2)
theorem Eqp.dsum {m : Nat} {fa : List Fa} {dr : List Do} {sf sd : List Int} (h : Eqp m fa dr sf sd) (j : Nat) (i : Int) :
    0 ≤ (dsum ((dr.zip sd).take j) i).1 ∧ (dsum ((dr.zip sd).take j) i).1 ≤ (dsum ((dr.zip sd).take j) i).2 ∧ (dsum ((dr.zip sd).take j) i).2 ≤ 524288 ∧ (dsum ((dr.zip sd).take j) i).1 ≤ 1800 := by
  have hm : ∀ y ∈ (((dr.zip sd).take j).filter fun x => decide (x.1.1 = i)).map (fun x => dRest x.1.2.2 x.2), 0 ≤ y.1 ∧ y.1 ≤ y.2 ∧ y.2 ≤ 262144 := fun y hy => by
    obtain ⟨x, hx, rfl⟩ := List.mem_map.1 hy
    have hx := (List.of_mem_zip (List.mem_of_mem_take (List.mem_filter.1 hx).1)).1
    have := (h.door _ hx).2.2.2.rng
    exact dRest_bd (fun z hz => by have := this z hz; omega) _
  have hm2 : ∀ y ∈ (((dr.zip sd).take j).filter fun x => decide (x.1.1 = i)).map (fun x => dRest x.1.2.2 x.2), 0 ≤ y.1 ∧ y.1 ≤ y.2 ∧ y.2 ≤ 900 := fun y hy => by
    obtain ⟨x, hx, rfl⟩ := List.mem_map.1 hy
    have hx' := List.mem_of_mem_take (List.mem_filter.1 hx).1
    obtain ⟨k, hk⟩ := List.mem_iff_getElem?.1 hx'
    rw [List.getElem?_zip_eq_some] at hk
    have hd := (h.door _ (List.mem_of_getElem? hk.1)).2.2.2
    have hs := h.d k _ _ hk.1 hk.2
    have e : dRest x.1.2.2 x.2 = (x.1.2.2.getD x.2.toNat 0, x.1.2.2.getD x.2.toNat 0) := by unfold dRest; rw [if_neg (by omega), if_neg (by omega), if_neg (by omega), if_neg (by omega)]
    have hr := hd.rng _ (List.mem_of_getElem? (getD_get (d := 0) (show x.2.toNat < x.1.2.2.length by omega)))
    rw [e]; simp only; omega
  have hl : ((((dr.zip sd).take j).filter fun x => decide (x.1.1 = i)).map (fun x => dRest x.1.2.2 x.2)).length ≤ 2 := by
    have := List.length_filter_le (fun x : Do × Int => decide (x.1.1 = i)) ((dr.zip sd).take j)
    have a := h.nd
    simp only [List.length_map, List.length_take, List.length_zip] at this ⊢; omega
  have b1 := sumS_bd (lo := 0) (hi := 262144) (by omega) (by omega) _ 2 hm hl
  have b2 := sumS_bd (lo := 0) (hi := 900) (by omega) (by omega) _ 2 hm2 hl
  unfold A.dsum; omega
theorem Eqp.fsum {m : Nat} {fa : List Fa} {dr : List Do} {sf sd : List Int} (h : Eqp m fa dr sf sd) (s' : List Int) (j : Nat) (i q : Int) :
    -6000 ≤ (fsum ((fa.zip s').take j) i q).1 ∧ (fsum ((fa.zip s').take j) i q).1 ≤ (fsum ((fa.zip s').take j) i q).2 ∧ (fsum ((fa.zip s').take j) i q).2 ≤ 6000 := by
  have := sumS_bd (lo := -3000) (hi := 3000) (by omega) (by omega) ((((fa.zip s').take j).filter fun x => decide (x.1.1 = i)).map fun x => sure x.1.2.2.2 x.1.2.1 x.2 q) 2 (fun y hy => by
    obtain ⟨x, hx, rfl⟩ := List.mem_map.1 hy
    have hx := (List.of_mem_zip (List.mem_of_mem_take (List.mem_filter.1 hx).1)).1
    have hp := (h.fan _ hx).2.2
    have := hp.f1 0 (by have := hp.ne; omega)
    exact sure_max (hp.good (h.fan _ hx).1) this.2 (by omega) _ _ _) (by
    have := List.length_filter_le (fun x : Fa × Int => decide (x.1.1 = i)) ((fa.zip s').take j)
    have a := h.nf
    simp only [List.length_map, List.length_take, List.length_zip] at this ⊢; omega)
  unfold A.fsum A.bsum; omega
end Go.Vi.A
namespace Go.Vi.B
open Go.Proofs Go.Vi.A
set_option linter.unusedVariables false
set_option linter.unusedSimpArgs false
variable {β : Type} {N : Nat} (hN : 1000 ≤ N)
include hN in
theorem fit_doors {m : Nat} {fa : List Fa} {dr : List Do} {sf sd : List Int} (h : Eqp m fa dr sf sd) (l : List Int) (a : Int) (pl : List Pl) (ro : List Ro) (xp xq : List Int) (i : Int) (ii : Nat) (q rest : Int) (h0 : 0 ≤ rest ∧ rest ≤ 1000)
    (K : List Int → Int → List Pl → List Ro → List Fa → List Do → List Int → List Int → List Int → List Int → Int → Nat → Int → Int → Option β) :
    F33.l8 N N l a pl ro fa dr sf sd xp xq i ii q rest 0 (fun z0 z1 z2 z3 z4 z5 z6 z7 z8 z9 z10 z11 z12 z13 _ _ => K z0 z1 z2 z3 z4 z5 z6 z7 z8 z9 z10 z11 z12 z13) = K l a pl ro fa dr sf sd xp xq i ii q (rest + (dsum (dr.zip sd) i).1) := by
  have hl := h.nd
  obtain ⟨s, hs', e⟩ := lfor (len := dr.length) (L := fun n j (m : Int) => F33.l8 N n l a pl ro fa dr sf sd xp xq i ii q m (j : Int) (fun z0 z1 z2 z3 z4 z5 z6 z7 z8 z9 z10 z11 z12 z13 _ _ => K z0 z1 z2 z3 z4 z5 z6 z7 z8 z9 z10 z11 z12 z13)) (k := fun m => K l a pl ro fa dr sf sd xp xq i ii q m)
    (fun j m => m = rest + (dsum ((dr.zip sd).take j) i).1)
    (fun n m hm => by simp only [F33.l8, res, Int.lt_irrefl, if_false])
    (fun j m hj hm => by
      obtain ⟨x, hx⟩ := getl hj
      obtain ⟨s, hsj⟩ := getl (show j < sd.length by rw [h.ld]; exact hj)
      have b1 := h.dsum j i; have b2 := h.dsum (j + 1) i
      have h6 := (h.door x (List.mem_of_getElem? hx)).2.2.2.le
      refine ⟨_, rfl, fun n => ?_⟩
      subst hm
      rw [dsum_take (zip_get hx hsj)] at b2 ⊢
      simp only [F33.l8, res, Int.toNat_natCast, hx, hsj, ge_some, w_succ (show j < 4000000000 by omega), ref08_Rest hN _ _ (show x.2.2.length ≤ 500 by omega)]
      rw [if_pos (by omega), if_pos (by omega)]
      by_cases c : x.1 = i
      · rw [if_pos c] at b2
        simp only at b2
        rw [if_pos c, if_pos (by omega), if_pos (by omega), if_pos c, w_id (by omega) (by omega)]
        simp only [Int.add_assoc]
      · rw [if_neg c, if_neg c]) 0 rest N (by simp [dsum, sumS]) (by omega) (by omega)
  refine e.trans ?_
  rw [hs', List.take_of_length_le (by rw [List.length_zip]; omega)]
include hN in
theorem fit_fans {m : Nat} {fa : List Fa} {dr : List Do} {sf sd : List Int} (h : Eqp m fa dr sf sd) (l : List Int) (a : Int) (pl : List Pl) (ro : List Ro) (xp xq : List Int) (i : Int) (ii : Nat) (q lift : Int) (hq : -1048577 ≤ q ∧ q ≤ 1048577) (h0 : -1000000000000000000 ≤ lift ∧ lift ≤ 1000000000000000000)
    (K : List Int → Int → List Pl → List Ro → List Fa → List Do → List Int → List Int → List Int → List Int → Int → Nat → Int → Option β) :
    F33.l14 N N l a pl ro fa dr sf sd xp xq i ii q lift 0 (fun z0 z1 z2 z3 z4 z5 z6 z7 z8 z9 z10 z11 _ z13 _ _ => K z0 z1 z2 z3 z4 z5 z6 z7 z8 z9 z10 z11 z13) = K l a pl ro fa dr sf sd xp xq i ii (lift - (fsum (fa.zip sf) i q).1) := by
  have hl := h.nf
  obtain ⟨s, hs', e⟩ := lfor (len := fa.length) (L := fun n j (m : Int) => F33.l14 N n l a pl ro fa dr sf sd xp xq i ii q m (j : Int) (fun z0 z1 z2 z3 z4 z5 z6 z7 z8 z9 z10 z11 _ z13 _ _ => K z0 z1 z2 z3 z4 z5 z6 z7 z8 z9 z10 z11 z13)) (k := fun m => K l a pl ro fa dr sf sd xp xq i ii m)
    (fun j m => m = lift - (fsum ((fa.zip sf).take j) i q).1)
    (fun n m hm => by simp only [F33.l14, res, Int.lt_irrefl, if_false])
    (fun j m hj hm => by
      obtain ⟨x, hx⟩ := getl hj
      obtain ⟨s, hsj⟩ := getl (show j < sf.length by rw [h.lf]; exact hj)
      have b1 := h.fsum sf j i q; have b2 := h.fsum sf (j + 1) i q
      have hf := h.fan x (List.mem_of_getElem? hx)
      have hg := hf.2.2.good hf.1
      have sb := h.f s (List.mem_of_getElem? hsj)
      have bx := sure_bd hg x.2.1 s q
      refine ⟨_, rfl, fun n => ?_⟩
      subst hm
      rw [fsum_take (zip_get hx hsj)] at b2 ⊢
      simp only [F33.l14, res, Int.toNat_natCast, hx, hsj, ge_some, w_succ (show j < 4000000000 by omega), ref07_State hN hg _ _ _ (show -1 ≤ s by omega) sb.2 (show -9223372036854775807 ≤ q by omega) (show q ≤ 9223372036854775807 by omega)]
      rw [if_pos (by omega), if_pos (by omega)]
      by_cases c : x.1 = i
      · rw [if_pos c] at b2
        simp only at b2
        rw [if_pos c, if_pos (by omega), if_pos (by omega), if_pos c, w_id (by omega) (by omega)]
        simp only [Int.sub_sub]
      · rw [if_neg c, if_neg c]) 0 lift N (by simp [fsum, bsum, sumS]) (by omega) (by omega)
  refine e.trans ?_
  rw [hs', List.take_of_length_le (by rw [List.length_zip]; omega)]
include hN in
theorem draw_fit {l : List Int} {a : Int} (hc : Cod l a) (pl : List Pl) {ro : List Ro} {fa : List Fa} {dr : List Do} {sf sd xp xq : List Int} (h : Eqp ro.length fa dr sf sd) (hn : ro.length ≤ 500) (hr : ∀ r ∈ ro, MkRoad xp.length r) (hp : ∀ x ∈ xp, -4000 ≤ x ∧ x ≤ 4000) (hql : xq.length = ro.length) (hq : ∀ x ∈ xq, -1000 ≤ x ∧ x ≤ 1000) :
    ∃ ro' a', Cod l a' ∧ ro'.length = ro.length ∧ (∀ (j : Nat) r r', ro[j]? = some r → ro'[j]? = some r' → FitR (dr.zip sd) (fa.zip sf) xp (xq.getD j 0) j r r') ∧
    ∀ k : List Int → Int → List Pl → List Ro → List Fa → List Do → Option β, F33.C N l a pl ro fa dr sf sd xp xq k = k l a' pl ro' fa dr := by
  obtain ⟨⟨a', ro'⟩, ⟨c', p1, p2, p3⟩, e⟩ := lfor (len := ro.length) (δ := (List Int → Int → List Pl → List Ro → List Fa → List Do → List Int → List Int → List Int → List Int → Int → Bool → Option β) → Option β)
    (L := fun n j (m : Int × List Ro) K => F33.l2 N n l m.1 pl m.2 fa dr sf sd xp xq (j : Int) K) (k := fun m K => K l m.1 pl m.2 fa dr sf sd xp xq (ro.length : Int) false)
    (fun j m => Cod l m.1 ∧ m.2.length = ro.length ∧ (∀ k, j ≤ k → m.2[k]? = ro[k]?) ∧ ∀ (k : Nat) r r', k < j → ro[k]? = some r → m.2[k]? = some r' → FitR (dr.zip sd) (fa.zip sf) xp (xq.getD k 0) k r r')
    (fun n m hm => funext fun K => by simp only [F33.l2, res, hm.2.1, Int.lt_irrefl, if_false, decide_false])
    (fun j m hj hm => by
      obtain ⟨g1, g2, g3, g4⟩ := hm
      obtain ⟨r, hrj⟩ := getl hj
      have hrj' : m.2[j]? = some r := by rw [g3 j (Nat.le_refl _)]; exact hrj
      obtain ⟨q, hqj⟩ := getl (show j < xq.length by omega)
      have hR := hr r (List.mem_of_getElem? hrj)
      obtain ⟨f0, f1⟩ := hR.frm; obtain ⟨t0, t1⟩ := hR.to
      obtain ⟨r0, r1, r2⟩ := hR.rest
      obtain ⟨u, hu⟩ := geti f0 f1
      obtain ⟨v, hv⟩ := geti t0 t1
      have bu := hp u (List.mem_of_getElem? hu); have bv := hp v (List.mem_of_getElem? hv); have bq := hq q (List.mem_of_getElem? hqj)
      obtain ⟨y, a1, c1, y1, e1⟩ := draw_Next (β := β) (N := N) g1 (r.2.2.2.2.2.2.1.2 - r.2.2.2.2.2.2.1.1 + 1)
      have y0 := y1.lo; have y2 := y1.hi (by omega)
      obtain ⟨s, a2, c2, s1, e2⟩ := draw_Next (β := β) (N := N) c1 30
      have s0 := s1.lo; have s2 := s1.hi (by omega)
      obtain ⟨t, a3, c3, t1', e3⟩ := draw_Next (β := β) (N := N) c2 30
      have t0' := t1'.lo; have t2 := t1'.hi (by omega)
      have bd := h.dsum (dr.zip sd).length j
      have bf := h.fsum sf (fa.zip sf).length j q
      rw [List.take_of_length_le (Nat.le_refl _)] at bd bf
      have hm1 : 0 ≤ max q (-q) ∧ max q (-q) ≤ 1000 := by omega
      have hR1 : 0 ≤ r.2.2.2.2.2.2.1.1 + y + (dsum (dr.zip sd) j).1 ∧ r.2.2.2.2.2.2.1.1 + y + (dsum (dr.zip sd) j).1 ≤ 1822 := by omega
      have bm := mul_le hR1.1 hR1.2 hm1.1 hm1.2
      have bm2 : -1822000000 ≤ (r.2.2.2.2.2.2.1.1 + y + (dsum (dr.zip sd) j).1) * max q (-q) * q ∧ (r.2.2.2.2.2.2.1.1 + y + (dsum (dr.zip sd) j).1) * max q (-q) * q ≤ 1822000000 := by
        have a := Int.mul_le_mul_of_nonneg_left bq.1 bm.1
        have b := Int.mul_le_mul_of_nonneg_left bq.2 bm.1
        omega
      refine ⟨(a3, m.2.set j (r.1, (r.2.1, (r.2.2.1, (r.2.2.2.1, (r.2.2.2.2.1, (r.2.2.2.2.2.1, ((r.2.2.2.2.2.2.1.1, r.2.2.2.2.2.2.1.2), (lift0 (dr.zip sd) (fa.zip sf) xp q j r (r.2.2.2.2.2.2.1.1 + y) - s, lift0 (dr.zip sd) (fa.zip sf) xp q j r (r.2.2.2.2.2.2.1.1 + y) + t))))))))),
        ⟨c3, by rw [List.length_set]; exact g2, fun k hk => by rw [List.getElem?_set_ne (by omega)]; exact g3 k (by omega), fun k r1 r1' hk hr1 hr1' => ?_⟩, fun n => funext fun K => ?_⟩
      · by_cases c : k = j
        · subst c
          rw [List.getElem?_set_self (by rw [g2]; exact hj)] at hr1'
          simp only [Option.some.injEq] at hr1'
          subst hr1'
          have : r = r1 := by rw [hrj] at hr1; simpa using hr1
          subst this
          rw [getD_eq hqj]
          exact ⟨rfl, rfl, rfl, rfl, rfl, rfl, _, s, t, by omega, by omega, by omega, by omega, rfl⟩
        · rw [List.getElem?_set_ne (by omega)] at hr1'
          exact g4 k r1 r1' (by omega) hr1 hr1'
      · simp only [F33.l2, res, Int.toNat_natCast, hrj', hqj, ge_some, w_succ (show j < 4000000000 by omega), w_id (x := r.2.2.2.2.2.2.1.2 - r.2.2.2.2.2.2.1.1) (by omega) (by omega), w_id (x := r.2.2.2.2.2.2.1.2 - r.2.2.2.2.2.2.1.1 + 1) (by omega) (by omega), e1, w_id (x := r.2.2.2.2.2.2.1.1 + y) (by omega) (by omega)]
        rw [g2, if_pos (by omega), if_pos (by omega), if_pos (by omega)]
        refine (fit_doors hN h _ _ _ _ _ _ _ _ _ _ (by omega) fun z18 z19 z20 z21 z22 z23 z24 z25 z26 z27 z28 z29 z30 z31 => _).trans ?_
        simp only [hrj', ge_some, hu, hv, f0, t0, if_true]
        rw [Int.zero_sub, w_id (x := -q) (by omega) (by omega), mxI, w_id (x := u - v) (by omega) (by omega), w_id (x := _ * max q (-q)) (by omega) (by omega), w_id (x := _ * q) (by omega) (by omega), w_id (x := _ - (u - v)) (by omega) (by omega)]
        refine (fit_fans hN h _ _ _ _ _ _ _ _ _ _ (by omega) (by omega) fun z42 z43 z44 z45 z46 z47 z48 z49 z50 z51 z52 z53 z55 => _).trans ?_
        simp only [e2, e3, hrj', ge_some]
        have el : lift0 (dr.zip sd) (fa.zip sf) xp q j r (r.2.2.2.2.2.2.1.1 + y) = (r.2.2.2.2.2.2.1.1 + y + (dsum (dr.zip sd) j).1) * max q (-q) * q - (u - v) - (fsum (fa.zip sf) j q).1 := by
          unfold lift0; rw [getD_eq hu, getD_eq hv]
        rw [← el]
        have bl : -2000000000 ≤ lift0 (dr.zip sd) (fa.zip sf) xp q j r (r.2.2.2.2.2.2.1.1 + y) ∧ lift0 (dr.zip sd) (fa.zip sf) xp q j r (r.2.2.2.2.2.2.1.1 + y) ≤ 2000000000 := by rw [el]; omega
        rw [w_id (x := _ - s) (by omega) (by omega), w_id (x := _ + t) (by omega) (by omega), w_succ (show j < 4000000000 by omega)]) 0 (a, ro) N ⟨hc, rfl, fun _ _ => rfl, fun k _ _ hk => by omega⟩ (by omega) (by omega)
  refine ⟨ro', a', c', p1, fun j r r' hj hj' => p3 j r r' (idx hj) hj hj', fun k => ?_⟩
  rw [F33.C_eq]; unfold F33.K
  exact congrFun e _
end Go.Vi.B
/- (*minecontrol/minecontroldraw.Codes).Made -/
namespace Go.Vi.B
open Go.Proofs
set_option linter.unusedVariables false
set_option maxRecDepth 100000
abbrev F11.i : Sh := [(0, .one (.addr 0 0)), (1, .slot false [.lst .pin 5 (.int .u8), .i])]
abbrev F11.o0 : Sh := [(0, .tup [(true, [.view 0 0, .view 0 1, .view 0 2, .view 0 3]), (true, [.view 0 4, .view 0 5]), (true, [.lst .frz 3 .i, .lst .frz 3 .i])]), (1, .slot true [.lst .own 70 kd1, .lst .own 64 kd8, .lst .own 44 kd11, .lst .own 46 kd13, .lst .own 3 .i, .lst .own 3 .i, .undef, .undef]), (2, .one (.addr 1 0)), (3, .slot false [.lst .pin 5 (.int .u8), .i])]
noncomputable def F11.l6 {β : Type} (N : Nat) : Nat → (List Int) → Int → (List Pl) → (List Ro) → (List Fa) → (List Do) → (List Int) → (List Int) → (List Int) → (List Int) → (List Pl) → (List Ro) → (List Fa) → (List Do) → Int → Int → (List Int → Int → List Pl → List Ro → List Fa → List Do → List Int → List Int → List Int → List Int → List Pl → List Ro → List Fa → List Do → Int → Int → Bool → Option β) → Option β
 | 0, _, _, _, _, _, _, _, _, _, _, _, _, _, _, _, _, _ => none
 | n + 1, v0, v1, v2, v3, v4, v5, v6, v7, v8, v9, v10, v11, v12, v13, v14, v15, k0 =>
  bl (v15 > 0) (k0 v0 v1 v2 v3 v4 v5 v6 v7 v8 v9 v10 v11 v12 v13 v14 v15 (decide (v15 > 0))) <|
  F12.C N v0 v1 100 fun r1 r2 r3 =>
  ck (v10.length + 1 ≤ 1000000000) <|
  F11.l6 N n r2 r3 v2 v3 v4 v5 v6 v7 v8 v9 (v10 ++ [((w (0 - r1)), false)]) v11 v12 v13 v14 (w (v15 - 1)) k0
noncomputable def F11.l12 {β : Type} (N : Nat) : Nat → (List Int) → Int → (List Pl) → (List Ro) → (List Fa) → (List Do) → (List Int) → (List Int) → (List Int) → (List Int) → (List Pl) → (List Ro) → (List Fa) → (List Do) → Int → Int → (List Int) → (List Int) → Int → (List Int → Int → List Pl → List Ro → List Fa → List Do → List Int → List Int → List Int → List Int → List Pl → List Ro → List Fa → List Do → Int → Int → List Int → List Int → Int → Bool → Option β) → Option β
 | 0, _, _, _, _, _, _, _, _, _, _, _, _, _, _, _, _, _, _, _, _ => none
 | n + 1, v0, v1, v2, v3, v4, v5, v6, v7, v8, v9, v10, v11, v12, v13, v14, v15, v16, v17, v18, k0 =>
  bl (v18 < v15) (k0 v0 v1 v2 v3 v4 v5 v6 v7 v8 v9 v10 v11 v12 v13 v14 v15 v16 v17 v18 (decide (v18 < v15))) <|
  F30.C N v0 v1 (-4000) 4000 fun r1 r2 r3 =>
  ck (0 ≤ v18) <|
  ge (v16[v18.toNat]?) fun _ =>
  ge (v16[v18.toNat]?) fun _ =>
  F11.l12 N n r2 r3 v2 v3 v4 v5 v6 v7 v8 v9 v10 v11 v12 v13 v14 v15 (v16.set v18.toNat r1) v17 (w (v18 + 1)) k0
noncomputable def F11.l18 {β : Type} (N : Nat) : Nat → (List Int) → Int → (List Pl) → (List Ro) → (List Fa) → (List Do) → (List Int) → (List Int) → (List Int) → (List Int) → (List Pl) → (List Ro) → (List Fa) → (List Do) → Int → Int → (List Int) → (List Int) → (List Int) → Int → (List Int → Int → List Pl → List Ro → List Fa → List Do → List Int → List Int → List Int → List Int → List Pl → List Ro → List Fa → List Do → Int → Int → List Int → List Int → List Int → Int → Bool → Option β) → Option β
 | 0, _, _, _, _, _, _, _, _, _, _, _, _, _, _, _, _, _, _, _, _, _ => none
 | n + 1, v0, v1, v2, v3, v4, v5, v6, v7, v8, v9, v10, v11, v12, v13, v14, v15, v16, v17, v18, v19, k0 =>
  bl (v19 > 0) (k0 v0 v1 v2 v3 v4 v5 v6 v7 v8 v9 v10 v11 v12 v13 v14 v15 v16 v17 v18 v19 (decide (v19 > 0))) <|
  F12.C N v0 v1 v15 fun r1 r2 r3 =>
  F12.C N r2 r3 (w (v15 - 1)) fun r4 r5 r6 =>
  cn (v15 = 0) <|
  F31.C N r5 r6 r1 (Int.tmod (w ((w (r1 + 1)) + r4)) v15) fun r7 r8 r9 r10 r11 _ r13 r14 r15 r16 r17 r18 =>
  F29.C N r17 r18 7 fun r19 r20 r21 =>
  F30.C N r20 r21 (-60) 60 fun r22 r23 r24 =>
  br r19 (
   ck (v11.length + 1 ≤ 1000000000) <|
   ck (v17.length + 1 ≤ 1000000000) <|
   ck (0 ≤ r7) <|
   ge (v18[r7.toNat]?) fun _ =>
   ge (v18[r7.toNat]?) fun x26 =>
   ck (0 ≤ r7) <|
   ge (v18[r7.toNat]?) fun _ =>
   ge (v18[r7.toNat]?) fun _ =>
   ck (0 ≤ r8) <|
   ge ((v18.set r7.toNat (w (x26 + 0)))[r8.toNat]?) fun _ =>
   ge ((v18.set r7.toNat (w (x26 + 0)))[r8.toNat]?) fun x30 =>
   ck (0 ≤ r8) <|
   ge ((v18.set r7.toNat (w (x26 + 0)))[r8.toNat]?) fun _ =>
   ge ((v18.set r7.toNat (w (x26 + 0)))[r8.toNat]?) fun _ =>
   F11.l18 N n r23 r24 v2 v3 v4 v5 v6 v7 v8 v9 v10 (v11 ++ [(r7, (r8, (r9, (r10, (r11, (r19, ((r13, r14), (r15, r16))))))))]) v12 v13 v14 v15 v16 (v17 ++ [0]) ((v18.set r7.toNat (w (x26 + 0))).set r8.toNat (w (x30 - 0))) (w (v19 - 1)) k0) <|
  ck (v11.length + 1 ≤ 1000000000) <|
  ck (v17.length + 1 ≤ 1000000000) <|
  ck (0 ≤ r7) <|
  ge (v18[r7.toNat]?) fun _ =>
  ge (v18[r7.toNat]?) fun x34 =>
  ck (0 ≤ r7) <|
  ge (v18[r7.toNat]?) fun _ =>
  ge (v18[r7.toNat]?) fun _ =>
  ck (0 ≤ r8) <|
  ge ((v18.set r7.toNat (w (x34 + r22)))[r8.toNat]?) fun _ =>
  ge ((v18.set r7.toNat (w (x34 + r22)))[r8.toNat]?) fun x38 =>
  ck (0 ≤ r8) <|
  ge ((v18.set r7.toNat (w (x34 + r22)))[r8.toNat]?) fun _ =>
  ge ((v18.set r7.toNat (w (x34 + r22)))[r8.toNat]?) fun _ =>
  F11.l18 N n r23 r24 v2 v3 v4 v5 v6 v7 v8 v9 v10 (v11 ++ [(r7, (r8, (r9, (r10, (r11, (r19, ((r13, r14), (r15, r16))))))))]) v12 v13 v14 v15 v16 (v17 ++ [r22]) ((v18.set r7.toNat (w (x34 + r22))).set r8.toNat (w (x38 - r22))) (w (v19 - 1)) k0
noncomputable def F11.l30 {β : Type} (N : Nat) : Nat → (List Int) → Int → (List Pl) → (List Ro) → (List Fa) → (List Do) → (List Int) → (List Int) → (List Int) → (List Int) → (List Pl) → (List Ro) → (List Fa) → (List Do) → Int → Int → (List Int) → (List Int) → (List Int) → Int → (List Int → Int → List Pl → List Ro → List Fa → List Do → List Int → List Int → List Int → List Int → List Pl → List Ro → List Fa → List Do → Int → Int → List Int → List Int → List Int → Int → Bool → Option β) → Option β
 | 0, _, _, _, _, _, _, _, _, _, _, _, _, _, _, _, _, _, _, _, _, _ => none
 | n + 1, v0, v1, v2, v3, v4, v5, v6, v7, v8, v9, v10, v11, v12, v13, v14, v15, v16, v17, v18, v19, k0 =>
  bl (v19 < v15) (k0 v0 v1 v2 v3 v4 v5 v6 v7 v8 v9 v10 v11 v12 v13 v14 v15 v16 v17 v18 v19 (decide (v19 < v15))) <|
  F12.C N v0 v1 v14 fun r1 r2 r3 =>
  F31.C N r2 r3 v19 r1 fun r4 r5 r6 r7 r8 r9 r10 r11 r12 r13 r14 r15 =>
  ck (0 ≤ v19) <|
  ge (v18[v19.toNat]?) fun _ =>
  ge (v18[v19.toNat]?) fun x17 =>
  F29.C N r14 r15 2 fun r18 r19 r20 =>
  bl r18 (
   ck (v11.length + 1 ≤ 1000000000) <|
   ck (v17.length + 1 ≤ 1000000000) <|
   F11.l30 N n r19 r20 v2 v3 v4 v5 v6 v7 v8 v9 v10 (v11 ++ [(r4, (r5, (r6, (r7, (r8, (r9, ((r10, r11), (r12, r13))))))))]) v12 v13 v14 v15 v16 (v17 ++ [(w (0 - x17))]) v18 (w (v19 + 1)) k0) <|
  ck (v11.length + 1 ≤ 1000000000) <|
  ck (v17.length + 1 ≤ 1000000000) <|
  F11.l30 N n r19 r20 v2 v3 v4 v5 v6 v7 v8 v9 v10 (v11 ++ [(r5, (r4, (r6, (r7, (r8, (r9, ((r10, r11), (r12, r13))))))))]) v12 v13 v14 v15 v16 (v17 ++ [(w (0 - (w (0 - x17))))]) v18 (w (v19 + 1)) k0
noncomputable def F11.K {β : Type} (N : Nat) (a0 : List Int) (a1 : Int) (k0 : List Int → List Int → List Pl → List Ro → List Fa → List Do → List Int → List Int → List Int → Int → Option β) : Option β :=
 F29.C N a0 a1 3 fun r1 r2 r3 =>
 br r1 (
  F12.C N r2 r3 5 fun r4 r5 r6 =>
  F11.l6 N N r5 r6 [] [] [] [] [] [] [] [] ([(0, true)] ++ [(10, true)]) [] [] [] (([(0, true)] ++ [(10, true)]).length : Int) r4 fun z7 z8 z9 z10 z11 z12 z13 z14 z15 z16 z17 z18 z19 z20 z21 _ _ =>
  ck ((z17.length : Int) = (z17.length : Int)) <|
  ck (0 ≤ (z17.length : Int)) <|
  ck ((z17.length : Int) ≤ 1000000000) <|
  F11.l12 N N z7 z8 z9 z10 z11 z12 z13 z14 z15 z16 z17 z18 z19 z20 z21 (z17.length : Int) (List.replicate (Int.toNat (z17.length : Int)) 0) [] z21 fun z24 z25 z26 z27 z28 z29 z30 z31 z32 z33 z34 z35 z36 z37 z38 z39 z40 z41 _ _ =>
  ck (z39 = z39) <|
  ck (0 ≤ z39) <|
  ck (z39 ≤ 1000000000) <|
  bl (z39 > 1) (
   F11.l30 N N z24 z25 z26 z27 z28 z29 z30 z31 z32 z33 z34 z35 z36 z37 z38 z39 z40 z41 (List.replicate (Int.toNat z39) 0) z38 fun z107 z108 _ _ _ _ _ _ _ _ z117 z118 z119 z120 _ _ z123 z124 _ _ _ =>
   F32.C N z107 z108 z117 z118 z119 z120 fun r128 r129 r130 r131 r132 r133 r134 r135 =>
   F33.C N r130 r131 r132 r133 r134 r135 r128 r129 z123 z124 fun r136 r137 r138 r139 r140 r141 =>
   F34.C N r136 r137 r138 r139 r140 r141 r128 r129 fun r142 r143 r144 r145 =>
   k0 z123 z124 r138 r139 r140 r141 r142 r143 r144 r145) <|
  F12.C N z24 z25 6 fun r44 r45 r46 =>
  F11.l18 N N r45 r46 z26 z27 z28 z29 z30 z31 z32 z33 z34 z35 z36 z37 z38 z39 z40 z41 (List.replicate (Int.toNat z39) 0) r44 fun z47 z48 z49 z50 z51 z52 z53 z54 z55 z56 z57 z58 z59 z60 z61 z62 z63 z64 z65 _ _ =>
  F11.l30 N N z47 z48 z49 z50 z51 z52 z53 z54 z55 z56 z57 z58 z59 z60 z61 z62 z63 z64 z65 z61 fun z68 z69 _ _ _ _ _ _ _ _ z78 z79 z80 z81 _ _ z84 z85 _ _ _ =>
  F32.C N z68 z69 z78 z79 z80 z81 fun r89 r90 r91 r92 r93 r94 r95 r96 =>
  F33.C N r91 r92 r93 r94 r95 r96 r89 r90 z84 z85 fun r97 r98 r99 r100 r101 r102 =>
  F34.C N r97 r98 r99 r100 r101 r102 r89 r90 fun r103 r104 r105 r106 =>
  k0 z84 z85 r99 r100 r101 r102 r103 r104 r105 r106) <|
 F12.C N r2 r3 5 fun r146 r147 r148 =>
 F11.l6 N N r147 r148 [] [] [] [] [] [] [] [] [(0, true)] [] [] [] ([(0, true)].length : Int) r146 fun z149 z150 z151 z152 z153 z154 z155 z156 z157 z158 z159 z160 z161 z162 z163 _ _ =>
 ck ((z159.length : Int) = (z159.length : Int)) <|
 ck (0 ≤ (z159.length : Int)) <|
 ck ((z159.length : Int) ≤ 1000000000) <|
 F11.l12 N N z149 z150 z151 z152 z153 z154 z155 z156 z157 z158 z159 z160 z161 z162 z163 (z159.length : Int) (List.replicate (Int.toNat (z159.length : Int)) 0) [] z163 fun z166 z167 z168 z169 z170 z171 z172 z173 z174 z175 z176 z177 z178 z179 z180 z181 z182 z183 _ _ =>
 ck (z181 = z181) <|
 ck (0 ≤ z181) <|
 ck (z181 ≤ 1000000000) <|
 bl (z181 > 1) (
  F11.l30 N N z166 z167 z168 z169 z170 z171 z172 z173 z174 z175 z176 z177 z178 z179 z180 z181 z182 z183 (List.replicate (Int.toNat z181) 0) z180 fun z249 z250 _ _ _ _ _ _ _ _ z259 z260 z261 z262 _ _ z265 z266 _ _ _ =>
  F32.C N z249 z250 z259 z260 z261 z262 fun r270 r271 r272 r273 r274 r275 r276 r277 =>
  F33.C N r272 r273 r274 r275 r276 r277 r270 r271 z265 z266 fun r278 r279 r280 r281 r282 r283 =>
  F34.C N r278 r279 r280 r281 r282 r283 r270 r271 fun r284 r285 r286 r287 =>
  k0 z265 z266 r280 r281 r282 r283 r284 r285 r286 r287) <|
 F12.C N z166 z167 6 fun r186 r187 r188 =>
 F11.l18 N N r187 r188 z168 z169 z170 z171 z172 z173 z174 z175 z176 z177 z178 z179 z180 z181 z182 z183 (List.replicate (Int.toNat z181) 0) r186 fun z189 z190 z191 z192 z193 z194 z195 z196 z197 z198 z199 z200 z201 z202 z203 z204 z205 z206 z207 _ _ =>
 F11.l30 N N z189 z190 z191 z192 z193 z194 z195 z196 z197 z198 z199 z200 z201 z202 z203 z204 z205 z206 z207 z203 fun z210 z211 _ _ _ _ _ _ _ _ z220 z221 z222 z223 _ _ z226 z227 _ _ _ =>
 F32.C N z210 z211 z220 z221 z222 z223 fun r231 r232 r233 r234 r235 r236 r237 r238 =>
 F33.C N r233 r234 r235 r236 r237 r238 r231 r232 z226 z227 fun r239 r240 r241 r242 r243 r244 =>
 F34.C N r239 r240 r241 r242 r243 r244 r231 r232 fun r245 r246 r247 r248 =>
 k0 z226 z227 r241 r242 r243 r244 r245 r246 r247 r248
noncomputable def F11.fx : Fx := ⟨Try.prog, [2, 3, 4], [1000033], [(0,[0,2,3,4]),(1,[0,2,3,4,5]),(2,[0,2,3,4,5,25]),(3,[0,2,3,4,5]),(4,[0,2,3,4,5,6]),(5,[0,2,3,4,5,6,7]),(6,[0,2,3,4,5,6,7,41]),(7,[0,2,3,4,5,6,7]),(8,[0,2,3,4,5,6,7]),(9,[0,2,3,4,5,6,8]),(10,[0,2,3,4,5,6,8,9]),(11,[0,2,3,4,5,6,8,9,10]),(12,[0,2,3,4,5,6,8,9,10,65]),(13,[0,2,3,4,5,6,8,9,10]),(14,[0,2,3,4,5,6,8,9,10]),(15,[0,2,3,4,5,6,8,9,11]),(16,[0,2,3,4,5,6,8,9,11,77]),(17,[0,2,3,4,5,6,8,9,11,12]),(18,[0,2,3,4,5,6,8,9,11,12,81]),(19,[0,2,3,4,5,6,8,9,11,12]),(20,[0,2,3,4,5,6,8,9,11,12,13]),(21,[0,2,3,4,5,6,8,9,11,12,14]),(22,[0,2,3,4,5,6,8,9,11,12,14]),(23,[0,2,3,4,5,6,8,9,11,12,14,15]),(24,[0,2,3,4,5,6,8,9,11,12,14,15,105]),(25,[0,2,3,4,5,6,8,9,11,12,14,15]),(26,[0,2,3,4,5,6,8,9,11,12,14,15]),(27,[0,2,3,4,5,6,8,9,11,12,14,15]),(28,[0,2,3,4,5,6,8,9,11,12]),(29,[0,2,3,4,5,6,8,9,11,16]),(30,[0,2,3,4,5,6,8,9,11,16,139]),(31,[0,2,3,4,5,6,8,9,11,16]),(32,[0,2,3,4,5,6,8,9,11,16,17,18]),(33,[0,2,3,4,5,6,8,9,11,16,17,18,154]),(34,[0,2,3,4,5,6,8,9,11,16,17,18]),(35,[0,2,3,4,5,6,8,9,11,16]),(36,[0,2,3,4,5,9,19]),(37,[0,2,3,4,5,9,19]),(38,[0,2,3,4])], 189, [0]⟩
noncomputable def F11.cs (N : Nat) : List (Ctr Try.prog) := [F29.X N, F12.X N, F30.X N, F31.X N, F32.X N, F33.X N, F34.X N]
abbrev F11.s6 : Sh := [(0, .one (.addr 0 0)), (1, .slot false [.lst .pin 5 (.int .u8), .i]), (4, .one (.addr 2 0)), (5, .slot false [.lst .own 70 kd1, .lst .own 64 kd8, .lst .own 44 kd11, .lst .own 46 kd13]), (6, .one (.addr 3 0)), (7, .slot false [.lst .own 3 .i, .lst .own 3 .i]), (8, .one (.addr 4 0)), (9, .slot false [.lst .own 3 .i, .lst .own 3 .i]), (10, .one (.addr 5 0)), (11, .slot false [.lst .own 70 kd1, .lst .own 64 kd8, .lst .own 44 kd11, .lst .own 46 kd13]), (12, .one .i), (14, .one .i)]
abbrev F11.e6_0 : Sh := [(0, .one (.addr 0 0)), (1, .slot false [.lst .pin 5 (.int .u8), .i]), (4, .one (.addr 2 0)), (5, .slot false [.lst .own 70 kd1, .lst .own 64 kd8, .lst .own 44 kd11, .lst .own 46 kd13]), (6, .one (.addr 3 0)), (7, .slot false [.lst .own 3 .i, .lst .own 3 .i]), (8, .one (.addr 4 0)), (9, .slot false [.lst .own 3 .i, .lst .own 3 .i]), (10, .one (.addr 5 0)), (11, .slot false [.lst .own 70 kd1, .lst .own 64 kd8, .lst .own 44 kd11, .lst .own 46 kd13]), (12, .one .i), (14, .one .i), (82, .one .bool)]
noncomputable def F11.X6 (N : Nat) : LpC Try.prog F11.fx := mkL (F11.cs N) [] ((loopsOf (bodyOf Try.f11)).getD 0 .skip) 6 (by kernel_rfl) (by kernel_rfl) (by kernel_rfl) F11.s6 (fun n x k => F11.l6 N n x.1 x.2.1 x.2.2.1 x.2.2.2.1 x.2.2.2.2.1 x.2.2.2.2.2.1 x.2.2.2.2.2.2.1 x.2.2.2.2.2.2.2.1 x.2.2.2.2.2.2.2.2.1 x.2.2.2.2.2.2.2.2.2.1 x.2.2.2.2.2.2.2.2.2.2.1 x.2.2.2.2.2.2.2.2.2.2.2.1 x.2.2.2.2.2.2.2.2.2.2.2.2.1 x.2.2.2.2.2.2.2.2.2.2.2.2.2.1 x.2.2.2.2.2.2.2.2.2.2.2.2.2.2.1 x.2.2.2.2.2.2.2.2.2.2.2.2.2.2.2.1 (fun r0 r1 r2 r3 r4 r5 r6 r7 r8 r9 r10 r11 r12 r13 r14 r15 r16 => k (.exit 0) (Sh.mk F11.e6_0 (r0, r1, r2, r3, r4, r5, r6, r7, r8, r9, r10, r11, r12, r13, r14, r15, r16, ())))) (fun _ _ => rfl) (fun _ _ _ => by kernel_rfl) N
abbrev F11.s12 : Sh := [(0, .one (.addr 0 0)), (1, .slot false [.lst .pin 5 (.int .u8), .i]), (4, .one (.addr 2 0)), (5, .slot false [.lst .own 70 kd1, .lst .own 64 kd8, .lst .own 44 kd11, .lst .own 46 kd13]), (6, .one (.addr 3 0)), (7, .slot false [.lst .own 3 .i, .lst .own 3 .i]), (8, .one (.addr 4 0)), (9, .slot false [.lst .own 3 .i, .lst .own 3 .i]), (10, .one (.addr 5 0)), (11, .slot false [.lst .own 70 kd1, .lst .own 64 kd8, .lst .own 44 kd11, .lst .own 46 kd13]), (12, .one .i), (16, .one .i), (18, .one (.addr 9 0)), (19, .slot false [.lst .own 3 .i, .lst .own 3 .i]), (20, .one .i)]
abbrev F11.e12_0 : Sh := [(0, .one (.addr 0 0)), (1, .slot false [.lst .pin 5 (.int .u8), .i]), (4, .one (.addr 2 0)), (5, .slot false [.lst .own 70 kd1, .lst .own 64 kd8, .lst .own 44 kd11, .lst .own 46 kd13]), (6, .one (.addr 3 0)), (7, .slot false [.lst .own 3 .i, .lst .own 3 .i]), (8, .one (.addr 4 0)), (9, .slot false [.lst .own 3 .i, .lst .own 3 .i]), (10, .one (.addr 5 0)), (11, .slot false [.lst .own 70 kd1, .lst .own 64 kd8, .lst .own 44 kd11, .lst .own 46 kd13]), (12, .one .i), (16, .one .i), (18, .one (.addr 9 0)), (19, .slot false [.lst .own 3 .i, .lst .own 3 .i]), (20, .one .i), (130, .one .bool)]
noncomputable def F11.X12 (N : Nat) : LpC Try.prog F11.fx := mkL (F11.cs N) [] ((loopsOf (bodyOf Try.f11)).getD 1 .skip) 12 (by kernel_rfl) (by kernel_rfl) (by kernel_rfl) F11.s12 (fun n x k => F11.l12 N n x.1 x.2.1 x.2.2.1 x.2.2.2.1 x.2.2.2.2.1 x.2.2.2.2.2.1 x.2.2.2.2.2.2.1 x.2.2.2.2.2.2.2.1 x.2.2.2.2.2.2.2.2.1 x.2.2.2.2.2.2.2.2.2.1 x.2.2.2.2.2.2.2.2.2.2.1 x.2.2.2.2.2.2.2.2.2.2.2.1 x.2.2.2.2.2.2.2.2.2.2.2.2.1 x.2.2.2.2.2.2.2.2.2.2.2.2.2.1 x.2.2.2.2.2.2.2.2.2.2.2.2.2.2.1 x.2.2.2.2.2.2.2.2.2.2.2.2.2.2.2.1 x.2.2.2.2.2.2.2.2.2.2.2.2.2.2.2.2.1 x.2.2.2.2.2.2.2.2.2.2.2.2.2.2.2.2.2.1 x.2.2.2.2.2.2.2.2.2.2.2.2.2.2.2.2.2.2.1 (fun r0 r1 r2 r3 r4 r5 r6 r7 r8 r9 r10 r11 r12 r13 r14 r15 r16 r17 r18 r19 => k (.exit 2) (Sh.mk F11.e12_0 (r0, r1, r2, r3, r4, r5, r6, r7, r8, r9, r10, r11, r12, r13, r14, r15, r16, r17, r18, r19, ())))) (fun _ _ => rfl) (fun _ _ _ => by kernel_rfl) N
abbrev F11.s18 : Sh := [(0, .one (.addr 0 0)), (1, .slot false [.lst .pin 5 (.int .u8), .i]), (4, .one (.addr 2 0)), (5, .slot false [.lst .own 70 kd1, .lst .own 64 kd8, .lst .own 44 kd11, .lst .own 46 kd13]), (6, .one (.addr 3 0)), (7, .slot false [.lst .own 3 .i, .lst .own 3 .i]), (8, .one (.addr 4 0)), (9, .slot false [.lst .own 3 .i, .lst .own 3 .i]), (10, .one (.addr 5 0)), (11, .slot false [.lst .own 70 kd1, .lst .own 64 kd8, .lst .own 44 kd11, .lst .own 46 kd13]), (12, .one .i), (16, .one .i), (18, .one (.addr 9 0)), (19, .slot false [.lst .own 3 .i, .lst .own 3 .i]), (22, .one (.view 11 0)), (23, .slot true [.lst .own 3 .i]), (24, .one .i)]
abbrev F11.e18_0 : Sh := [(0, .one (.addr 0 0)), (1, .slot false [.lst .pin 5 (.int .u8), .i]), (4, .one (.addr 2 0)), (5, .slot false [.lst .own 70 kd1, .lst .own 64 kd8, .lst .own 44 kd11, .lst .own 46 kd13]), (6, .one (.addr 3 0)), (7, .slot false [.lst .own 3 .i, .lst .own 3 .i]), (8, .one (.addr 4 0)), (9, .slot false [.lst .own 3 .i, .lst .own 3 .i]), (10, .one (.addr 5 0)), (11, .slot false [.lst .own 70 kd1, .lst .own 64 kd8, .lst .own 44 kd11, .lst .own 46 kd13]), (12, .one .i), (16, .one .i), (18, .one (.addr 9 0)), (19, .slot false [.lst .own 3 .i, .lst .own 3 .i]), (22, .one (.view 11 0)), (23, .slot true [.lst .own 3 .i]), (24, .one .i), (162, .one .bool)]
noncomputable def F11.X18 (N : Nat) : LpC Try.prog F11.fx := mkL (F11.cs N) [] ((loopsOf (bodyOf Try.f11)).getD 2 .skip) 18 (by kernel_rfl) (by kernel_rfl) (by kernel_rfl) F11.s18 (fun n x k => F11.l18 N n x.1 x.2.1 x.2.2.1 x.2.2.2.1 x.2.2.2.2.1 x.2.2.2.2.2.1 x.2.2.2.2.2.2.1 x.2.2.2.2.2.2.2.1 x.2.2.2.2.2.2.2.2.1 x.2.2.2.2.2.2.2.2.2.1 x.2.2.2.2.2.2.2.2.2.2.1 x.2.2.2.2.2.2.2.2.2.2.2.1 x.2.2.2.2.2.2.2.2.2.2.2.2.1 x.2.2.2.2.2.2.2.2.2.2.2.2.2.1 x.2.2.2.2.2.2.2.2.2.2.2.2.2.2.1 x.2.2.2.2.2.2.2.2.2.2.2.2.2.2.2.1 x.2.2.2.2.2.2.2.2.2.2.2.2.2.2.2.2.1 x.2.2.2.2.2.2.2.2.2.2.2.2.2.2.2.2.2.1 x.2.2.2.2.2.2.2.2.2.2.2.2.2.2.2.2.2.2.1 x.2.2.2.2.2.2.2.2.2.2.2.2.2.2.2.2.2.2.2.1 (fun r0 r1 r2 r3 r4 r5 r6 r7 r8 r9 r10 r11 r12 r13 r14 r15 r16 r17 r18 r19 r20 => k (.exit 4) (Sh.mk F11.e18_0 (r0, r1, r2, r3, r4, r5, r6, r7, r8, r9, r10, r11, r12, r13, r14, r15, r16, r17, r18, r19, r20, ())))) (fun _ _ => rfl) (fun _ _ _ => by kernel_rfl) N
abbrev F11.s30 : Sh := [(0, .one (.addr 0 0)), (1, .slot false [.lst .pin 5 (.int .u8), .i]), (4, .one (.addr 2 0)), (5, .slot false [.lst .own 70 kd1, .lst .own 64 kd8, .lst .own 44 kd11, .lst .own 46 kd13]), (6, .one (.addr 3 0)), (7, .slot false [.lst .own 3 .i, .lst .own 3 .i]), (8, .one (.addr 4 0)), (9, .slot false [.lst .own 3 .i, .lst .own 3 .i]), (10, .one (.addr 5 0)), (11, .slot false [.lst .own 70 kd1, .lst .own 64 kd8, .lst .own 44 kd11, .lst .own 46 kd13]), (12, .one .i), (16, .one .i), (18, .one (.addr 9 0)), (19, .slot false [.lst .own 3 .i, .lst .own 3 .i]), (22, .one (.view 11 0)), (23, .slot true [.lst .own 3 .i]), (32, .one .i)]
abbrev F11.e30_0 : Sh := [(0, .one (.addr 0 0)), (1, .slot false [.lst .pin 5 (.int .u8), .i]), (4, .one (.addr 2 0)), (5, .slot false [.lst .own 70 kd1, .lst .own 64 kd8, .lst .own 44 kd11, .lst .own 46 kd13]), (6, .one (.addr 3 0)), (7, .slot false [.lst .own 3 .i, .lst .own 3 .i]), (8, .one (.addr 4 0)), (9, .slot false [.lst .own 3 .i, .lst .own 3 .i]), (10, .one (.addr 5 0)), (11, .slot false [.lst .own 70 kd1, .lst .own 64 kd8, .lst .own 44 kd11, .lst .own 46 kd13]), (12, .one .i), (16, .one .i), (18, .one (.addr 9 0)), (19, .slot false [.lst .own 3 .i, .lst .own 3 .i]), (22, .one (.view 11 0)), (23, .slot true [.lst .own 3 .i]), (32, .one .i), (278, .one .bool)]
noncomputable def F11.X30 (N : Nat) : LpC Try.prog F11.fx := mkL (F11.cs N) [] ((loopsOf (bodyOf Try.f11)).getD 3 .skip) 30 (by kernel_rfl) (by kernel_rfl) (by kernel_rfl) F11.s30 (fun n x k => F11.l30 N n x.1 x.2.1 x.2.2.1 x.2.2.2.1 x.2.2.2.2.1 x.2.2.2.2.2.1 x.2.2.2.2.2.2.1 x.2.2.2.2.2.2.2.1 x.2.2.2.2.2.2.2.2.1 x.2.2.2.2.2.2.2.2.2.1 x.2.2.2.2.2.2.2.2.2.2.1 x.2.2.2.2.2.2.2.2.2.2.2.1 x.2.2.2.2.2.2.2.2.2.2.2.2.1 x.2.2.2.2.2.2.2.2.2.2.2.2.2.1 x.2.2.2.2.2.2.2.2.2.2.2.2.2.2.1 x.2.2.2.2.2.2.2.2.2.2.2.2.2.2.2.1 x.2.2.2.2.2.2.2.2.2.2.2.2.2.2.2.2.1 x.2.2.2.2.2.2.2.2.2.2.2.2.2.2.2.2.2.1 x.2.2.2.2.2.2.2.2.2.2.2.2.2.2.2.2.2.2.1 x.2.2.2.2.2.2.2.2.2.2.2.2.2.2.2.2.2.2.2.1 (fun r0 r1 r2 r3 r4 r5 r6 r7 r8 r9 r10 r11 r12 r13 r14 r15 r16 r17 r18 r19 r20 => k (.exit 6) (Sh.mk F11.e30_0 (r0, r1, r2, r3, r4, r5, r6, r7, r8, r9, r10, r11, r12, r13, r14, r15, r16, r17, r18, r19, r20, ())))) (fun _ _ => rfl) (fun _ _ _ => by kernel_rfl) N
noncomputable def F11.C {β : Type} (N : Nat) := (Sealed fun β => @F11.K β).1 β N
theorem F11.C_eq {β : Type} (N : Nat) : @F11.C β N = @F11.K β N := congrFun (congrFun (Sealed fun β => @F11.K β).2 β) N
noncomputable def F11.X (N : Nat) : Ctr Try.prog := mkF 11 Try.f11 F11.fx (F11.cs N) [F11.X6 N, F11.X12 N, F11.X18 N, F11.X30 N] F11.i (fun x k => F11.C N x.1 x.2.1 (fun r0 r1 r2 r3 r4 r5 r6 r7 r8 r9 => k (Sh.mk F11.o0 (r0, r1, r2, r3, r4, r5, r6, r7, r8, r9, ())))) (by intros; rw [F11.C_eq]; kernel_rfl) (by kernel_rfl) (by kernel_rfl) (by kernel_rfl) (by kernel_rfl) rfl (by kernel_rfl) rfl (by kernel_rfl) (by kernel_rfl) (by kernel_rfl) (.dead _ 11) rfl
end Go.Vi.B
/- Airs with a setting and a state that are made: they are right, and the state fits. -/
namespace Go.Vi.A
/-- What is made. -/
structure MadeOk (pl : List Pl) (ro : List Ro) (fa : List Fa) (dr : List Do) (sf sd xp xq : List Int) : Prop where
  air : airE pl ro fa dr = 0
  fit : fitE fa dr sf sd = 0
  st : stE pl ro (dr.zip sd) (fa.zip sf) xp xq = 0
  npl1 : 1 ≤ pl.length
  npl : pl.length ≤ 6
  nro : ro.length ≤ 10
  nfa : fa.length ≤ 2
  ndr : dr.length ≤ 2
  rest : ∀ d ∈ dr, 2 ≤ d.2.2.length ∧ d.2.2.length ≤ 4
  xpb : ∀ x ∈ xp, -4000 ≤ x ∧ x ≤ 4000
  pts : ∀ f ∈ fa, Pts f.2.2.2
  other : ∀ d ∈ dr, d.2.1 = -1
  lift : ∀ r ∈ ro, -2000000000 ≤ r.2.2.2.2.2.2.2.1 ∧ r.2.2.2.2.2.2.2.1 ≤ r.2.2.2.2.2.2.2.2 ∧ r.2.2.2.2.2.2.2.2 ≤ 2000000000
theorem MadeOk.fits {pl : List Pl} {ro : List Ro} {fa : List Fa} {dr : List Do} {sf sd xp xq : List Int} (h : MadeOk pl ro fa dr sf sd xp xq) : fitsE pl ro fa dr sf sd xp xq = 0 := by
  unfold fitsE; rw [thn_zero, if_pos h.fit]; exact ⟨h.air, h.st⟩
theorem dbt_dsum {dr : List Do} {s s' : List Int} (h : Dbt s s') (hr : ∀ (j : Nat) d x, dr[j]? = some d → s[j]? = some x → 0 ≤ x ∧ x < (d.2.2.length : Int)) (i : Int) : ∀ j, j ≤ dr.length → j ≤ s.length → (dsum ((dr.zip s').take j) i).1 ≤ (dsum ((dr.zip s).take j) i).1 ∧ (dsum ((dr.zip s).take j) i).2 ≤ (dsum ((dr.zip s').take j) i).2 := by
  intro j
  induction j with
  | zero => intro _ _; simp [dsum, sumS]
  | succ j ih =>
    intro h1 h2
    have ih := ih (by omega) (by omega)
    obtain ⟨d, hd⟩ := getl (show j < dr.length by omega)
    obtain ⟨x, hx⟩ := getl (show j < s.length by omega)
    obtain ⟨x', hx'⟩ := getl (show j < s'.length by rw [h.len]; omega)
    rw [dsum_take (zip_get hd hx), dsum_take (zip_get hd hx')]
    by_cases c : d.1 = i
    · rw [if_pos c, if_pos c]
      have r := hr j d x hd hx
      have : (dRest d.2.2 x').1 ≤ (dRest d.2.2 x).1 ∧ (dRest d.2.2 x).2 ≤ (dRest d.2.2 x').2 := by
        rcases h.or j x x' hx hx' with rfl | rfl
        · omega
        · exact dRest_unknown r.1 r.2
      simp only; omega
    · rw [if_neg c, if_neg c]; exact ih
theorem dbt_fsum {fa : List Fa} {s s' : List Int} (h : Dbt s s') (hr : ∀ x ∈ s, 0 ≤ x ∧ x ≤ 2) (i q : Int) : ∀ j, j ≤ fa.length → j ≤ s.length → (fsum ((fa.zip s').take j) i q).1 ≤ (fsum ((fa.zip s).take j) i q).1 ∧ (fsum ((fa.zip s).take j) i q).2 ≤ (fsum ((fa.zip s').take j) i q).2 := by
  intro j
  induction j with
  | zero => intro _ _; simp [fsum, bsum, sumS]
  | succ j ih =>
    intro h1 h2
    have ih := ih (by omega) (by omega)
    obtain ⟨d, hd⟩ := getl (show j < fa.length by omega)
    obtain ⟨x, hx⟩ := getl (show j < s.length by omega)
    obtain ⟨x', hx'⟩ := getl (show j < s'.length by rw [h.len]; omega)
    rw [fsum_take (zip_get hd hx), fsum_take (zip_get hd hx')]
    by_cases c : d.1 = i
    · rw [if_pos c, if_pos c]
      have r := hr x (List.mem_of_getElem? hx)
      have : (sure d.2.2.2 d.2.1 x' q).1 ≤ (sure d.2.2.2 d.2.1 x q).1 ∧ (sure d.2.2.2 d.2.1 x q).2 ≤ (sure d.2.2.2 d.2.1 x' q).2 := by
        rcases h.or j x x' hx hx' with rfl | rfl
        · omega
        · exact sure_unknown r.1 r.2
      simp only; omega
    · rw [if_neg c, if_neg c]; exact ih
theorem netF_congr : ∀ (a b : QS) (p : Int), a.map (fun x => (x.1.1, x.1.2.1, x.2)) = b.map (fun x => (x.1.1, x.1.2.1, x.2)) → netF a p = netF b p
  | [], [], _, _ => rfl
  | [], _ :: _, _, h => by simp at h
  | _ :: _, [], _, h => by simp at h
  | x :: a, y :: b, p, h => by
    simp only [List.map_cons, List.cons.injEq, Prod.mk.injEq] at h
    obtain ⟨⟨h1, h2, h3⟩, h4⟩ := h
    simp only [netF, h1, h2, h3, netF_congr a b p h4]
theorem fit_out {dz dz' : DS} {fz fz' : FS} {xp : List Int} {q i : Int} {r r' : Ro} (h : FitR dz fz xp q i r r') (hd : (dsum dz' i).1 ≤ (dsum dz i).1 ∧ (dsum dz i).1 ≤ (dsum dz i).2 ∧ (dsum dz i).2 ≤ (dsum dz' i).2)
    (hf : (fsum fz' i q).1 ≤ (fsum fz i q).1 ∧ (fsum fz i q).1 ≤ (fsum fz i q).2 ∧ (fsum fz i q).2 ≤ (fsum fz' i q).2) : outE (xp.getD r'.1.toNat 0 - xp.getD r'.2.1.toNat 0) (drop dz' fz' i r' q) = 0 := by
  obtain ⟨rest, c1, c2, h0, h1, ⟨a0, a1⟩, ⟨b0, b1⟩, hl⟩ := h.lift
  rw [outE_zero, h.frm, h.to]
  have hq : 0 ≤ q * q := by
    by_cases c : 0 ≤ q
    · exact Int.mul_nonneg c c
    · have := Int.mul_nonneg (show 0 ≤ -q by omega) (show 0 ≤ -q by omega)
      rwa [Int.neg_mul_neg] at this
  have m1 := Int.mul_le_mul_of_nonneg_right (show r.2.2.2.2.2.2.1.1 + (dsum dz' i).1 ≤ rest + (dsum dz i).1 by omega) hq
  have m2 := Int.mul_le_mul_of_nonneg_right (show rest + (dsum dz i).1 ≤ r.2.2.2.2.2.2.1.2 + (dsum dz' i).2 by omega) hq
  unfold drop drp rOf
  rw [hl, h.rest]
  unfold lift0
  by_cases c : q < 0
  · have e : (rest + (dsum dz i).1) * max q (-q) * q = -((rest + (dsum dz i).1) * (q * q)) := by
      rw [show max q (-q) = -q by omega, Int.mul_assoc, Int.neg_mul, Int.mul_neg]
    rw [if_pos c, e]; simp only; omega
  · have e : (rest + (dsum dz i).1) * max q (-q) * q = (rest + (dsum dz i).1) * (q * q) := by
      rw [show max q (-q) = q by omega, Int.mul_assoc]
    rw [if_neg c, e]; simp only; omega
/-- Places that are made. -/
structure MkPl (pl : List Pl) (sh : Nat) : Prop where
  n : pl.length ≤ 6
  s1 : 1 ≤ sh
  sn : sh ≤ pl.length
  hgt : ∀ p ∈ pl, -100 ≤ p.1 ∧ p.1 ≤ 10
  sur : ∀ (j : Nat) p, pl[j]? = some p → (p.2 = true ↔ j < sh)
theorem roadE_of {n i : Nat} {r : Ro} (h : MkRoad n r) (hl : -2199023255552 ≤ r.2.2.2.2.2.2.2.1 ∧ r.2.2.2.2.2.2.2.1 ≤ r.2.2.2.2.2.2.2.2 ∧ r.2.2.2.2.2.2.2.2 ≤ 2199023255552) : roadE n i r = 0 := by
  have h1 := h.frm; have h2 := h.to; have h3 := h.ne; have h4 := h.len; have h5 := h.area; have h6 := h.rest
  unfold roadE
  rw [if_neg (by omega), if_neg (by omega), if_neg (by omega), if_neg (by omega), if_neg (by omega), if_neg (by omega), if_neg (by omega), if_neg (by omega), if_neg (by omega), if_pos (by unfold SpanOk; omega), if_pos hl]
theorem Eqp.fansOk {m : Nat} {fa : List Fa} {dr : List Do} {sf sd : List Int} (h : Eqp m fa dr sf sd) : ferr (fanInE m) 0 fa = 0 := by
  rw [ferr_zero]; intro j f hf
  have := h.fan f (List.mem_of_getElem? hf)
  unfold fanInE; rw [thn_zero]
  exact ⟨good_iff.2 (this.2.2.good this.1), by rw [if_neg (by omega)]⟩
theorem Eqp.doorsOk {m : Nat} {fa : List Fa} {dr : List Do} {sf sd : List Int} (h : Eqp m fa dr sf sd) : doorsE dr = 0 ∧ ferr (doorInE m) 0 dr = 0 := by
  have hn := h.nd
  constructor
  · unfold doorsE; rw [if_neg (by omega), ferr_zero]; intro j d hd
    have hd' := h.door d (List.mem_of_getElem? hd)
    have t := hd'.2.2.2.two; have t' := hd'.2.2.2.le
    unfold doorE
    rw [if_neg (by omega), if_neg (by omega), if_neg (by omega), thn_zero, thn_zero, ferr_zero, ferr_zero]
    refine ⟨fun k x hx => ?_, fun k x hx => ?_, ?_⟩
    · have := hd'.2.2.2.rng x (List.mem_of_getElem? hx)
      unfold restE; rw [if_neg (by omega), if_neg (by omega)]
    · unfold fallE
      by_cases c : 0 + k = 0
      · rw [if_pos c]
      · have := hd'.2.2.2.fall k x hx (by omega)
        rw [Nat.zero_add] at c ⊢
        rw [if_neg c, if_neg (by omega)]
    · unfold otherE; rw [if_pos hd'.2.2.1]
  · rw [ferr_zero]; intro j d hd
    have hd' := h.door d (List.mem_of_getElem? hd)
    unfold doorInE; rw [if_neg (by omega)]
/-- All that is made fits. -/
theorem made_ok {pl : List Pl} {ro ro' : List Ro} {fa : List Fa} {dr : List Do} {sf sd sf' sd' xp xq : List Int} {sh : Nat} (hp : MkPl pl sh) (hr : ∀ r ∈ ro, MkRoad pl.length r) (hn : ro.length ≤ 10) (hx : xp.length = pl.length) (hxb : ∀ x ∈ xp, -4000 ≤ x ∧ x ≤ 4000) (hx0 : ∀ (j : Nat) x, xp[j]? = some x → j < sh → x = 0)
    (hql : xq.length = ro.length) (hqb : ∀ x ∈ xq, -1000 ≤ x ∧ x ≤ 1000) (hcl : ∀ (j : Nat) r q, ro[j]? = some r → xq[j]? = some q → r.2.2.2.2.2.1 = true → q = 0) (hnet : ∀ p : Nat, sh ≤ p → p < pl.length → netF (ro.zip xq) p = 0)
    (he : Eqp ro.length fa dr sf sd) (hl : ro'.length = ro.length) (hf : ∀ (j : Nat) r r', ro[j]? = some r → ro'[j]? = some r' → FitR (dr.zip sd) (fa.zip sf) xp (xq.getD j 0) j r r') (df : Dbt sf sf') (dd : Dbt sd sd') : MadeOk pl ro' fa dr sf' sd' xp xq := by
  have hpn := hp.n; have hs1 := hp.s1; have hsn := hp.sn
  have hnf := he.nf; have hnd := he.nd
  obtain ⟨do1, do2⟩ := he.doorsOk
  have old : ∀ (j : Nat) r', ro'[j]? = some r' → ∃ r q, ro[j]? = some r ∧ xq[j]? = some q ∧ FitR (dr.zip sd) (fa.zip sf) xp q j r r' := fun j r' h => by
    obtain ⟨r, h1⟩ := getl (show j < ro.length by have := idx h; omega)
    obtain ⟨q, h2⟩ := getl (show j < xq.length by have := idx h; omega)
    have := hf j r r' h1 h
    rw [getD_eq h2] at this
    exact ⟨r, q, h1, h2, this⟩
  have bd := fun i : Int => he.dsum (dr.zip sd).length i
  have bf := fun i q : Int => he.fsum sf (fa.zip sf).length i q
  simp only [List.take_of_length_le (Nat.le_refl _)] at bd bf
  have hlift : ∀ r' ∈ ro', -2000000000 ≤ r'.2.2.2.2.2.2.2.1 ∧ r'.2.2.2.2.2.2.2.1 ≤ r'.2.2.2.2.2.2.2.2 ∧ r'.2.2.2.2.2.2.2.2 ≤ 2000000000 := all_get fun j r' hj => by
    obtain ⟨r, q, h1, h2, h3⟩ := old j r' hj
    have hR := hr r (List.mem_of_getElem? h1)
    obtain ⟨rest, c1, c2, g0, g1, g2, g3, g4⟩ := h3.lift
    have bq := hqb q (List.mem_of_getElem? h2)
    have rr := hR.rest
    have b1 := bd j; have b2 := bf j q
    have hm1 : 0 ≤ max q (-q) ∧ max q (-q) ≤ 1000 := by omega
    have hR1 : 0 ≤ rest + (dsum (dr.zip sd) j).1 ∧ rest + (dsum (dr.zip sd) j).1 ≤ 1822 := by omega
    have bm := mul_le hR1.1 hR1.2 hm1.1 hm1.2
    have bm2 : -1822000000 ≤ (rest + (dsum (dr.zip sd) j).1) * max q (-q) * q ∧ (rest + (dsum (dr.zip sd) j).1) * max q (-q) * q ≤ 1822000000 := by
      have a := Int.mul_le_mul_of_nonneg_left bq.1 bm.1
      have b := Int.mul_le_mul_of_nonneg_left bq.2 bm.1
      omega
    have bx : ∀ i : Nat, -4000 ≤ xp.getD i 0 ∧ xp.getD i 0 ≤ 4000 := fun i => by
      by_cases c : i < xp.length
      · exact hxb _ (List.mem_of_getElem? (getD_get c))
      · rw [List.getD_eq_getElem?_getD, List.getElem?_eq_none (by omega)]; simp
    have x1 := bx r.1.toNat; have x2 := bx r.2.1.toNat
    rw [g4]; simp only [lift0]; omega
  refine ⟨?_, ?_, ?_, by omega, hpn, by omega, hnf, hnd, fun d hd => ⟨(he.door d hd).2.2.2.two, (he.door d hd).2.2.2.le⟩, hxb, fun f hf => (he.fan f hf).2.2, fun d hd => (he.door d hd).2.2.1, hlift⟩
  · unfold airE
    rw [thn_zero]
    constructor
    · unfold mineE
      rw [if_neg (by omega), if_neg (by omega), thn_zero, ferr_zero, ferr_zero]
      refine ⟨fun j p hj => ?_, fun j r' hj => ?_⟩
      · have := hp.hgt p (List.mem_of_getElem? hj)
        unfold placeE; rw [if_neg (by omega), if_neg (by omega)]
      · obtain ⟨r, q, h1, h2, h3⟩ := old j r' hj
        have hR := hr r (List.mem_of_getElem? h1)
        have hL := hlift r' (List.mem_of_getElem? hj)
        refine roadE_of ⟨by rw [h3.frm]; exact hR.frm, by rw [h3.to]; exact hR.to, by rw [h3.frm, h3.to]; exact hR.ne, by rw [h3.len]; exact hR.len, by rw [h3.area]; exact hR.area, by rw [h3.rest]; exact hR.rest⟩ (by omega)
    · rw [if_neg (by omega), thn_zero, thn_zero, hl]
      exact ⟨he.fansOk, do1, do2⟩
  · refine SetOk.fit ⟨by rw [df.len, he.lf], by rw [dd.len, he.ld], fun x' hx' => ?_, fun j d x' hd hx' => ?_⟩
    · obtain ⟨j, hj⟩ := List.mem_iff_getElem?.1 hx'
      obtain ⟨x, hx⟩ := getl (show j < sf.length by have := idx hj; rw [df.len] at this; exact this)
      have := he.f x (List.mem_of_getElem? hx)
      rcases df.or j x x' hx hj with rfl | rfl <;> omega
    · obtain ⟨x, hx⟩ := getl (show j < sd.length by have := idx hx'; rw [dd.len] at this; exact this)
      have := he.d j d x hd hx
      rcases dd.or j x x' hx hx' with rfl | rfl <;> omega
  · unfold stE
    rw [if_pos (by omega), if_pos (by omega), thn_zero, thn_zero, thn_zero, thn_zero, ferr_zero, ferr_zero, ferr_zero, ferr_zero, ferr_zero]
    refine ⟨fun j x hj => ?_, fun j x hj => ?_, fun j r' hj => ?_, fun j p hj => ?_, fun j r' hj => ?_⟩
    · have := hxb x (List.mem_of_getElem? hj)
      unfold prE; rw [if_neg (by omega), if_neg (by omega)]
    · have := hqb x (List.mem_of_getElem? hj)
      unfold flE; rw [if_neg (by omega), if_neg (by omega)]
    · obtain ⟨r, q, h1, h2, h3⟩ := old j r' hj
      unfold cloE
      rw [Nat.zero_add, h3.closed, getD_eq h2]
      by_cases c : r.2.2.2.2.2.1 = true
      · rw [if_pos c, if_pos (hcl j r q h1 h2 c)]
      · rw [if_neg c]
    · unfold sumE
      rw [Nat.zero_add]
      have hs := hp.sur j p hj
      obtain ⟨x, hxj⟩ := getl (show j < xp.length by have := idx hj; omega)
      by_cases c : p.2 = true
      · rw [if_pos c, getD_eq hxj, if_pos (hx0 j x hxj (hs.1 c))]
      · rw [if_neg c, if_pos]
        rw [netF_congr _ (ro.zip xq)]
        · exact hnet j (by have := mt hs.2 c; omega) (idx hj)
        · refine List.ext_getElem? fun k => ?_
          rw [List.getElem?_map, List.getElem?_map]
          by_cases hk : k < ro.length
          · obtain ⟨r', hr'⟩ := getl (show k < ro'.length by omega)
            obtain ⟨r, q, h1, h2, h3⟩ := old k r' hr'
            rw [zip_get hr' h2, zip_get h1 h2]
            simp only [Option.map_some, h3.frm, h3.to]
          · rw [List.getElem?_eq_none (by rw [List.length_zip]; omega), List.getElem?_eq_none (by rw [List.length_zip]; omega)]
    · obtain ⟨r, q, h1, h2, h3⟩ := old j r' hj
      unfold droE
      rw [Nat.zero_add, getD_eq h2]
      split
      · rfl
      · have d1 := dbt_dsum dd he.d (j : Int) dr.length (Nat.le_refl _) (by have := he.ld; omega)
        have f1 := dbt_fsum df he.f (j : Int) q fa.length (Nat.le_refl _) (by have := he.lf; omega)
        rw [List.take_of_length_le (by rw [List.length_zip]; omega), List.take_of_length_le (by rw [List.length_zip]; omega)] at d1 f1
        have b1 := bd j; have b2 := bf j q
        exact fit_out h3 (by omega) (by omega)
end Go.Vi.A
/- Made: what it makes. -/
namespace Go.Vi.B
open Go.Proofs Go.Vi.A
set_option linter.unusedVariables false
set_option linter.unusedSimpArgs false
variable {β : Type} {N : Nat} (hN : 1000 ≤ N)
/-- Places more. -/
theorem made_places {l : List Int} {sh : Nat} (hs : 1 ≤ sh ∧ sh ≤ 2) : ∀ (d : Nat) (pl : List Pl) (a : Int), Cod l a → pl.length + d ≤ 6 → MkPl pl sh → ∃ pl' a', Cod l a' ∧ MkPl pl' sh ∧ ∀ n, d < n → ∀ K : List Int → Int → List Pl → List Ro → List Fa → List Do → List Int → List Int → List Int → List Int → List Pl → List Ro → List Fa → List Do → Int → Option β,
    F11.l6 N n l a [] [] [] [] [] [] [] [] pl [] [] [] (sh : Int) (d : Int) (fun z1 z2 z3 z4 z5 z6 z7 z8 z9 z10 z11 z12 z13 z14 z15 _ _ => K z1 z2 z3 z4 z5 z6 z7 z8 z9 z10 z11 z12 z13 z14 z15) = K l a' [] [] [] [] [] [] [] [] pl' [] [] [] (sh : Int) := by
  intro d
  induction d with
  | zero =>
    intro pl a hc _ hp
    refine ⟨pl, a, hc, hp, fun n hn K => ?_⟩
    obtain ⟨n, rfl⟩ : ∃ m, n = m + 1 := ⟨n - 1, by omega⟩
    simp only [F11.l6, res, Int.natCast_zero, gt_iff_lt, Int.lt_irrefl, if_false]
  | succ d ih =>
    intro pl a hc hl hp
    obtain ⟨r, a1, c1, y1, e1⟩ := draw_Next (β := β) (N := N) hc 100
    have r0 := y1.lo; have r1 := y1.hi (by omega)
    have hsn := hp.sn
    obtain ⟨pl', a', c', hp', e⟩ := ih (pl ++ [(-r, false)]) a1 c1 (by simp; omega) ⟨by simp; omega, hp.s1, by simp; omega, fun p h => by
      rcases List.mem_append.1 h with h | h
      · exact hp.hgt p h
      · simp only [List.mem_singleton] at h; subst h; simp only; omega, fun j p h => by
      rcases snoc_get h with ⟨hj, h⟩ | ⟨hj, rfl⟩
      · exact hp.sur j p h
      · simp only [Bool.false_eq_true, false_iff]; omega⟩
    refine ⟨pl', a', c', hp', fun n hn K => ?_⟩
    obtain ⟨n, rfl⟩ : ∃ m, n = m + 1 := ⟨n - 1, by omega⟩
    simp only [F11.l6, res, e1, Int.zero_sub, w_id (x := -r) (by omega) (by omega)]
    rw [if_pos (by omega), if_pos (by omega), w_id (x := ((d + 1 : Nat) : Int) - 1) (by omega) (by omega), show ((d + 1 : Nat) : Int) - 1 = (d : Int) by omega]
    exact e n (by omega) K
/-- Pressures. -/
theorem made_press {l : List Int} {a : Int} (h : Cod l a) (hN : 1000 ≤ N) (pl : List Pl) {sh : Nat} (hn : pl.length ≤ 6) (hs : sh ≤ pl.length) : ∃ xp a', Cod l a' ∧ xp.length = pl.length ∧ (∀ x ∈ xp, -4000 ≤ x ∧ x ≤ 4000) ∧ (∀ (j : Nat) x, xp[j]? = some x → j < sh → x = 0) ∧
    ∀ K : List Int → Int → List Pl → List Ro → List Fa → List Do → List Int → List Int → List Int → List Int → List Pl → List Ro → List Fa → List Do → Int → Int → List Int → List Int → Option β,
    F11.l12 N N l a [] [] [] [] [] [] [] [] pl [] [] [] (sh : Int) (pl.length : Int) (List.replicate pl.length 0) [] (sh : Int) (fun z1 z2 z3 z4 z5 z6 z7 z8 z9 z10 z11 z12 z13 z14 z15 z16 z17 z18 _ _ => K z1 z2 z3 z4 z5 z6 z7 z8 z9 z10 z11 z12 z13 z14 z15 z16 z17 z18) =
      K l a' [] [] [] [] [] [] [] [] pl [] [] [] (sh : Int) (pl.length : Int) xp [] := by
  obtain ⟨⟨a', xp⟩, ⟨c', p1, p2, p3⟩, e⟩ := lfor (len := pl.length) (δ := (List Int → Int → List Pl → List Ro → List Fa → List Do → List Int → List Int → List Int → List Int → List Pl → List Ro → List Fa → List Do → Int → Int → List Int → List Int → Option β) → Option β)
    (L := fun n j (m : Int × List Int) K => F11.l12 N n l m.1 [] [] [] [] [] [] [] [] pl [] [] [] (sh : Int) (pl.length : Int) m.2 [] (j : Int) (fun z1 z2 z3 z4 z5 z6 z7 z8 z9 z10 z11 z12 z13 z14 z15 z16 z17 z18 _ _ => K z1 z2 z3 z4 z5 z6 z7 z8 z9 z10 z11 z12 z13 z14 z15 z16 z17 z18))
    (k := fun m K => K l m.1 [] [] [] [] [] [] [] [] pl [] [] [] (sh : Int) (pl.length : Int) m.2 [])
    (fun j m => Cod l m.1 ∧ m.2.length = pl.length ∧ (∀ x ∈ m.2, -4000 ≤ x ∧ x ≤ 4000) ∧ (∀ (k : Nat) x, m.2[k]? = some x → k < sh → x = 0) ∧ sh ≤ j)
    (fun n m hm => funext fun K => by simp only [F11.l12, res, Int.lt_irrefl, if_false])
    (fun j m hj hm => by
      obtain ⟨g1, g2, g3, g4, g5⟩ := hm
      obtain ⟨r, a1, c1, r0, r1, e1⟩ := draw_Range (β := β) (N := N) g1 (lo := -4000) (hi := 4000) (by omega) (by omega) (by omega)
      obtain ⟨x, hx⟩ := getl (show j < m.2.length by omega)
      refine ⟨(a1, m.2.set j r), ⟨c1, by rw [List.length_set]; exact g2, fun y hy => ?_, fun k y hk hks => ?_, by omega⟩, fun n => funext fun K => ?_⟩
      · rcases List.mem_or_eq_of_mem_set hy with hy | rfl
        · exact g3 y hy
        · exact ⟨r0, r1⟩
      · rw [List.getElem?_set_ne (by omega)] at hk; exact g4 k y hk hks
      · simp only [F11.l12, res, e1, Int.toNat_natCast, hx, ge_some, w_succ (show j < 4000000000 by omega)]
        rw [if_pos (by omega), if_pos (by omega)]) sh (a, List.replicate pl.length 0) N ⟨h, by simp, fun x hx => by have := List.eq_of_mem_replicate hx; omega, fun k x hk _ => by
        exact List.eq_of_mem_replicate (List.mem_of_getElem? hk), Nat.le_refl _⟩ hs (by omega)
  exact ⟨xp, a', c', p1, p2, p3.1, fun K => congrFun e K⟩
/-- Roads that are made, with their flows. -/
structure MkRo (n : Nat) (ro : List Ro) (xq : List Int) (M : Int) : Prop where
  len : xq.length = ro.length
  road : ∀ r ∈ ro, MkRoad n r
  fl : ∀ q ∈ xq, -M ≤ q ∧ q ≤ M
  cl : ∀ (j : Nat) r q, ro[j]? = some r → xq[j]? = some q → r.2.2.2.2.2.1 = true → q = 0
theorem MkRo.snoc {n : Nat} {ro : List Ro} {xq : List Int} {M q : Int} {r : Ro} (h : MkRo n ro xq M) (hr : MkRoad n r) (hq : -M ≤ q ∧ q ≤ M) (hc : r.2.2.2.2.2.1 = true → q = 0) : MkRo n (ro ++ [r]) (xq ++ [q]) M :=
  ⟨by simp [h.len], fun x hx => by
    rcases List.mem_append.1 hx with hx | hx
    · exact h.road x hx
    · simp only [List.mem_singleton] at hx; subst hx; exact hr, fun x hx => by
    rcases List.mem_append.1 hx with hx | hx
    · exact h.fl x hx
    · simp only [List.mem_singleton] at hx; subst hx; exact hq, fun j x y hx hy => by
    rcases snoc_get hx with ⟨hj, hx⟩ | ⟨hj, rfl⟩
    · rcases snoc_get hy with ⟨hj', hy⟩ | ⟨hj', rfl⟩
      · exact h.cl j x y hx hy
      · have := h.len; omega
    · rcases snoc_get hy with ⟨hj', hy⟩ | ⟨hj', rfl⟩
      · have := h.len; omega
      · exact hc⟩
theorem zip_snoc {α γ : Type} {a : List α} {b : List γ} (h : b.length = a.length) (x : α) (y : γ) : (a ++ [x]).zip (b ++ [y]) = a.zip b ++ [(x, y)] := by
  rw [List.zip_append (by omega)]; rfl
/-- Any roads between places. -/
theorem made_roads {l : List Int} {n : Nat} (hn : 2 ≤ n ∧ n ≤ 6) (pl : List Pl) (sh : Int) (xp : List Int) : ∀ (d : Nat) (ro : List Ro) (xq : List Int) (a : Int), Cod l a → ro.length + d ≤ 5 → MkRo n ro xq 60 → ∃ ro' xq' a', Cod l a' ∧ ro'.length ≤ 5 ∧ MkRo n ro' xq' 60 ∧
    ∀ m, d < m → ∀ K : List Int → Int → List Pl → List Ro → List Fa → List Do → List Int → List Int → List Int → List Int → List Pl → List Ro → List Fa → List Do → Int → Int → List Int → List Int → List Int → Option β,
    F11.l18 N m l a [] [] [] [] [] [] [] [] pl ro [] [] sh (n : Int) xp xq (tab n fun p => netF (ro.zip xq) p) (d : Int) (fun z1 z2 z3 z4 z5 z6 z7 z8 z9 z10 z11 z12 z13 z14 z15 z16 z17 z18 z19 _ _ => K z1 z2 z3 z4 z5 z6 z7 z8 z9 z10 z11 z12 z13 z14 z15 z16 z17 z18 z19) =
      K l a' [] [] [] [] [] [] [] [] pl ro' [] [] sh (n : Int) xp xq' (tab n fun p => netF (ro'.zip xq') p) := by
  intro d
  induction d with
  | zero =>
    intro ro xq a hc hl hp
    refine ⟨ro, xq, a, hc, by omega, hp, fun m hm K => ?_⟩
    obtain ⟨m, rfl⟩ : ∃ k, m = k + 1 := ⟨m - 1, by omega⟩
    simp only [F11.l18, res, Int.natCast_zero, gt_iff_lt, Int.lt_irrefl, if_false]
  | succ d ih =>
    intro ro xq a hc hl hp
    obtain ⟨f, a1, c1, y1, e1⟩ := draw_Next (β := β) (N := N) hc (n : Int)
    obtain ⟨t, a2, c2, y2, e2⟩ := draw_Next (β := β) (N := N) c1 ((n : Int) - 1)
    have f0 := y1.lo; have f1 := y1.hi (by omega); have t0 := y2.lo; have t1 := y2.hi (by omega)
    have hto := tmod_bd (v := f + 1 + t) (n := (n : Int)) (by omega) (by omega)
    have hne : f ≠ Int.tmod (f + 1 + t) (n : Int) := by
      rw [Int.tmod_eq_emod_of_nonneg (by omega)]
      intro h
      by_cases c : f + 1 + t < n
      · rw [Int.emod_eq_of_lt (by omega) c] at h; omega
      · have : (f + 1 + t) % (n : Int) = f + 1 + t - n := by
          rw [← Int.sub_emod_right, Int.emod_eq_of_lt (by omega) (by omega)]
        omega
    obtain ⟨ln, ar, wk, r0, r1, l0, l1, a3, c3, hln, har, hr, hli, e3⟩ := draw_Road (β := β) (N := N) c2 f (Int.tmod (f + 1 + t) (n : Int))
    obtain ⟨b, a4, c4, e4⟩ := draw_One (β := β) (N := N) c3 7
    obtain ⟨q, a5, c5, q0, q1, e5⟩ := draw_Range (β := β) (N := N) c4 (lo := -60) (hi := 60) (by omega) (by omega) (by omega)
    have hz := hp.len
    obtain ⟨ro', xq', a', c', hl', hp', e⟩ := ih (ro ++ [(f, (Int.tmod (f + 1 + t) (n : Int), (ln, (ar, (wk, (b, ((r0, r1), (l0, l1))))))))]) (xq ++ [if b = true then 0 else q]) a5 c5 (by simp; omega) (hp.snoc ⟨⟨f0, f1⟩, hto, hne, hln, by omega, hr⟩ (by split <;> omega) (fun h => if_pos h))
    refine ⟨ro', xq', a', c', hl', hp', fun m hm K => ?_⟩
    obtain ⟨m, rfl⟩ : ∃ k, m = k + 1 := ⟨m - 1, by omega⟩
    have zl : ((ro ++ [(f, (Int.tmod (f + 1 + t) (n : Int), (ln, (ar, (wk, (b, ((r0, r1), (l0, l1))))))))]).zip (xq ++ [if b = true then 0 else q])).take ro.length = ro.zip xq := by
      rw [zip_snoc hz, List.take_append_of_le_length (by rw [List.length_zip]; omega), List.take_of_length_le (by rw [List.length_zip]; omega)]
    have zl' : ((ro ++ [(f, (Int.tmod (f + 1 + t) (n : Int), (ln, (ar, (wk, (b, ((r0, r1), (l0, l1))))))))]).zip (xq ++ [if b = true then 0 else q])).take (ro.length + 1) = (ro ++ [(f, (Int.tmod (f + 1 + t) (n : Int), (ln, (ar, (wk, (b, ((r0, r1), (l0, l1))))))))]).zip (xq ++ [if b = true then 0 else q]) := by
      rw [List.take_of_length_le (by rw [List.length_zip]; simp; omega)]
    have zg : ((ro ++ [(f, (Int.tmod (f + 1 + t) (n : Int), (ln, (ar, (wk, (b, ((r0, r1), (l0, l1))))))))]).zip (xq ++ [if b = true then 0 else q]))[ro.length]? = some ((f, (Int.tmod (f + 1 + t) (n : Int), (ln, (ar, (wk, (b, ((r0, r1), (l0, l1)))))))), if b = true then 0 else q) := by
      rw [zip_snoc hz, List.getElem?_append_right (by rw [List.length_zip]; omega)]
      simp [List.length_zip, hz]
    have hset := net_set (n := n) zg f0 hto.1 hne
    have g1 := net_get (n := n) (z := (ro ++ [(f, (Int.tmod (f + 1 + t) (n : Int), (ln, (ar, (wk, (b, ((r0, r1), (l0, l1))))))))]).zip (xq ++ [if b = true then 0 else q])) (j := ro.length) f0 f1
    have g2 := fun x => net_get2 (n := n) (z := (ro ++ [(f, (Int.tmod (f + 1 + t) (n : Int), (ln, (ar, (wk, (b, ((r0, r1), (l0, l1))))))))]).zip (xq ++ [if b = true then 0 else q])) (j := ro.length) (x := x) hto.1 hto.2 f0 hne
    rw [zl, zl'] at hset
    rw [zl] at g1 g2
    have nb : ∀ p, -600 ≤ netF (ro.zip xq) p ∧ netF (ro.zip xq) p ≤ 600 := fun p => by
      have := netF_bd (M := 60) (by omega) (ro.zip xq) 5 p (fun x hx => hp.fl _ (List.of_mem_zip hx).2) (by rw [List.length_zip]; omega)
      omega
    have n1 := nb f; have n2 := nb (Int.tmod (f + 1 + t) (n : Int))
    have hd : w (((d + 1 : Nat) : Int) - 1) = (d : Int) := by rw [w_id (by omega) (by omega)]; omega
    have ee := e m (by omega) K
    simp only [F11.l18, res, e1, w_id (x := (n : Int) - 1) (by omega) (by omega), e2, w_id (x := f + 1) (by omega) (by omega), w_id (x := f + 1 + t) (by omega) (by omega), e3, e4, e5, f0, hto.1, if_true, g1, g2, ge_some, hd]
    rw [if_pos (by omega), if_neg (by omega)]
    cases b with
    | true =>
      simp only [if_true] at hset ee
      simp only [res, w_id (x := netF (ro.zip xq) f + 0) (by omega) (by omega), w_id (x := netF (ro.zip xq) (Int.tmod (f + 1 + t) (n : Int)) - 0) (by omega) (by omega), hset]
      rw [if_pos (by omega), if_pos (by omega)]
      exact ee
    | false =>
      simp only [Bool.false_eq_true, if_false] at hset ee
      simp only [res, w_id (x := netF (ro.zip xq) f + q) (by omega) (by omega), w_id (x := netF (ro.zip xq) (Int.tmod (f + 1 + t) (n : Int)) - q) (by omega) (by omega), hset]
      rw [if_pos (by omega), if_pos (by omega)]
      exact ee
end Go.Vi.B
/- Made: shafts, and all of it. -/
namespace Go.Vi.B
open Go.Proofs Go.Vi.A
set_option linter.unusedVariables false
set_option linter.unusedSimpArgs false
variable {β : Type} {N : Nat} (hN : 1000 ≤ N)
include hN in
/-- Roads to shafts: what comes leaves. -/
theorem made_shafts {l : List Int} {a : Int} (h : Cod l a) {n sh : Nat} (hn : n ≤ 6) (hs : 1 ≤ sh) (hsn : sh ≤ n) (pl : List Pl) (xp : List Int) {ro : List Ro} {xq : List Int} (hl : ro.length ≤ 5) (hp : MkRo n ro xq 60) :
    ∃ ro' xq' a', Cod l a' ∧ ro'.length ≤ 10 ∧ MkRo n ro' xq' 1000 ∧ (∀ p : Nat, sh ≤ p → p < n → netF (ro'.zip xq') p = 0) ∧
    ∀ K : List Int → Int → List Pl → List Ro → List Fa → List Do → List Int → List Int → Option β,
    F11.l30 N N l a [] [] [] [] [] [] [] [] pl ro [] [] (sh : Int) (n : Int) xp xq (tab n fun p => netF (ro.zip xq) p) (sh : Int) (fun z1 z2 _ _ _ _ _ _ _ _ z11 z12 z13 z14 _ _ z17 z18 _ _ _ => K z1 z2 z11 z12 z13 z14 z17 z18) = K l a' pl ro' [] [] xp xq' := by
  have nb : ∀ p, -600 ≤ netF (ro.zip xq) p ∧ netF (ro.zip xq) p ≤ 600 := fun p => by
    have := netF_bd (M := 60) (by omega) (ro.zip xq) 5 p (fun x hx => hp.fl _ (List.of_mem_zip hx).2) (by rw [List.length_zip]; omega)
    omega
  obtain ⟨⟨a', ro', xq'⟩, ⟨c', p1, p2, p3, p4⟩, e⟩ := lfor (len := n) (δ := (List Int → Int → List Pl → List Ro → List Fa → List Do → List Int → List Int → Option β) → Option β)
    (L := fun m j (s : Int × List Ro × List Int) K => F11.l30 N m l s.1 [] [] [] [] [] [] [] [] pl s.2.1 [] [] (sh : Int) (n : Int) xp s.2.2 (tab n fun p => netF (ro.zip xq) p) (j : Int) (fun z1 z2 _ _ _ _ _ _ _ _ z11 z12 z13 z14 _ _ z17 z18 _ _ _ => K z1 z2 z11 z12 z13 z14 z17 z18))
    (k := fun s K => K l s.1 pl s.2.1 [] [] xp s.2.2)
    (fun j s => Cod l s.1 ∧ sh ≤ j ∧ s.2.1.length ≤ 5 + (j - sh) ∧ MkRo n s.2.1 s.2.2 1000 ∧ ∀ p : Nat, sh ≤ p → p < n → netF (s.2.1.zip s.2.2) p = if p < j then 0 else netF (ro.zip xq) p)
    (fun m s hs => funext fun K => by simp only [F11.l30, res, Int.lt_irrefl, if_false])
    (fun j s hj hs => by
      obtain ⟨a, ro1, xq1⟩ := s
      obtain ⟨g1, g2, g3, g4, g5⟩ := hs
      simp only at g1 g3 g4 g5
      obtain ⟨t, a1, c1, y1, e1⟩ := draw_Next (β := β) (N := N) g1 (sh : Int)
      have t0 := y1.lo; have t1 := y1.hi (by omega)
      obtain ⟨ln, ar, wk, r0, r1, l0, l1, a2, c2, hln, har, hr, hli, e2⟩ := draw_Road (β := β) (N := N) c1 (j : Int) t
      obtain ⟨b, a3, c3, e3⟩ := draw_One (β := β) (N := N) c2 2
      have nj := nb j
      have hg : (tab n fun p => netF (ro.zip xq) p)[j]? = some (netF (ro.zip xq) j) := tab_get hj
      have hz := g4.len
      have h5 := g5 j g2 hj
      rw [if_neg (by omega)] at h5
      cases b with
      | false =>
        refine ⟨(a3, ro1 ++ [((j : Int), (t, (ln, (ar, (wk, (false, ((r0, r1), (l0, l1))))))))], xq1 ++ [-netF (ro.zip xq) j]), ⟨c3, by omega, by simp only [List.length_append, List.length_singleton]; omega,
          g4.snoc ⟨by simp only; omega, by simp only; omega, by simp only; omega, hln, by simp only; omega, hr⟩ (by omega) (fun h => by cases h), fun p q0 q1 => ?_⟩, fun m => funext fun K => ?_⟩
        · simp only
          rw [zip_snoc hz, netF_append, g5 p q0 q1]
          simp only [netF]
          by_cases c : p = j
          · subst c
            repeat' split
            all_goals omega
          · repeat' split
            all_goals omega
        · simp only [F11.l30, res, e1, e2, e3, Int.toNat_natCast, hg, ge_some, w_succ (show j < 4000000000 by omega), Int.zero_sub, w_id (x := -netF (ro.zip xq) j) (by omega) (by omega)]
          rw [if_pos (by omega), if_pos (by omega), if_pos (by omega), if_pos (by omega)]
      | true =>
        refine ⟨(a3, ro1 ++ [(t, ((j : Int), (ln, (ar, (wk, (false, ((r0, r1), (l0, l1))))))))], xq1 ++ [netF (ro.zip xq) j]), ⟨c3, by omega, by simp only [List.length_append, List.length_singleton]; omega,
          g4.snoc ⟨by simp only; omega, by simp only; omega, by simp only; omega, hln, by simp only; omega, hr⟩ (by omega) (fun h => by cases h), fun p q0 q1 => ?_⟩, fun m => funext fun K => ?_⟩
        · simp only
          rw [zip_snoc hz, netF_append, g5 p q0 q1]
          simp only [netF]
          by_cases c : p = j
          · subst c
            repeat' split
            all_goals omega
          · repeat' split
            all_goals omega
        · simp only [F11.l30, res, e1, e2, e3, Int.toNat_natCast, hg, ge_some, w_succ (show j < 4000000000 by omega), Int.zero_sub, w_id (x := -netF (ro.zip xq) j) (by omega) (by omega), Int.neg_neg, w_id (x := netF (ro.zip xq) j) (by omega) (by omega)]
          rw [if_pos (by omega), if_pos (by omega), if_pos (by omega), if_pos (by omega)]) sh (a, ro, xq) N ⟨h, Nat.le_refl _, by simp only; omega, ⟨hp.len, hp.road, fun q hq => by have := hp.fl q hq; omega, hp.cl⟩, fun p q0 q1 => by rw [if_neg (by omega)]⟩ hsn (by omega)
  simp only at c' p2 p3 p4
  exact ⟨ro', xq', a', c', by omega, p3, fun p q0 q1 => by rw [p4 p q0 q1, if_pos q1], fun K => congrFun e K⟩
include hN in
/-- What stands behind the shafts. -/
theorem made_end {l : List Int} {a : Int} (h : Cod l a) {pl : List Pl} {sh : Nat} (hp : MkPl pl sh) {xp : List Int} (hx : xp.length = pl.length) (hxb : ∀ x ∈ xp, -4000 ≤ x ∧ x ≤ 4000) (hx0 : ∀ (j : Nat) x, xp[j]? = some x → j < sh → x = 0) {ro : List Ro} {xq : List Int} (hl : ro.length ≤ 5) (hm : MkRo pl.length ro xq 60) :
    ∃ ro' xq' fa dr sf sd a', Cod l a' ∧ MadeOk pl ro' fa dr sf sd xp xq' ∧
    ∀ k : List Int → List Int → List Pl → List Ro → List Fa → List Do → List Int → List Int → List Int → Int → Option β,
    F11.l30 N N l a [] [] [] [] [] [] [] [] pl ro [] [] (sh : Int) (pl.length : Int) xp xq (tab pl.length fun p => netF (ro.zip xq) p) (sh : Int) (fun z249 z250 _ _ _ _ _ _ _ _ z259 z260 z261 z262 _ _ z265 z266 _ _ _ =>
      F32.C N z249 z250 z259 z260 z261 z262 fun r270 r271 r272 r273 r274 r275 r276 r277 =>
      F33.C N r272 r273 r274 r275 r276 r277 r270 r271 z265 z266 fun r278 r279 r280 r281 r282 r283 =>
      F34.C N r278 r279 r280 r281 r282 r283 r270 r271 fun r284 r285 r286 r287 =>
      k z265 z266 r280 r281 r282 r283 r284 r285 r286 r287) = k xp xq' pl ro' fa dr sf sd l a' := by
  obtain ⟨ro1, xq1, a1, c1, n1, m1, z1, e1⟩ := made_shafts (β := β) hN h hp.n hp.s1 hp.sn pl xp hl hm
  obtain ⟨sf, sd, fa, dr, a2, c2, q2, e2⟩ := draw_equipped (β := β) hN c1 pl (ro := ro1) (by omega)
  obtain ⟨ro2, a3, c3, n3, f3, e3⟩ := draw_fit (β := β) hN c2 pl q2 (by omega) (fun r hr => by rw [hx]; exact m1.road r hr) hxb m1.len m1.fl
  obtain ⟨sf', sd', a4, c4, d4, d4', e4⟩ := draw_doubts (β := β) hN c3 pl ro2 fa dr (sf := sf) (sd := sd) (by have := q2.lf; have := q2.nf; omega) (by have := q2.ld; have := q2.nd; omega)
  refine ⟨ro2, xq1, fa, dr, sf', sd', a4, c4, made_ok hp m1.road n1 hx hxb hx0 m1.len m1.fl m1.cl z1 q2 n3 f3 d4 d4', fun k => ?_⟩
  refine (e1 fun z1 z2 z11 z12 z13 z14 z17 z18 => _).trans ?_
  rw [e2, e3, e4]
include hN in
theorem made_tail {l : List Int} {a : Int} (h : Cod l a) {pl0 : List Pl} (hp0 : pl0.length ≤ 2) (hp : MkPl pl0 pl0.length) :
    ∃ pl ro fa dr sf sd xp xq a', Cod l a' ∧ MadeOk pl ro fa dr sf sd xp xq ∧
    ∀ k0 : List Int → List Int → List Pl → List Ro → List Fa → List Do → List Int → List Int → List Int → Int → Option β,
    (F12.C N l a 5 fun r146 r147 r148 =>
 F11.l6 N N r147 r148 [] [] [] [] [] [] [] [] pl0 [] [] [] (pl0.length : Int) r146 fun z149 z150 z151 z152 z153 z154 z155 z156 z157 z158 z159 z160 z161 z162 z163 _ _ =>
 ck ((z159.length : Int) = (z159.length : Int)) <|
 ck (0 ≤ (z159.length : Int)) <|
 ck ((z159.length : Int) ≤ 1000000000) <|
 F11.l12 N N z149 z150 z151 z152 z153 z154 z155 z156 z157 z158 z159 z160 z161 z162 z163 (z159.length : Int) (List.replicate (Int.toNat (z159.length : Int)) 0) [] z163 fun z166 z167 z168 z169 z170 z171 z172 z173 z174 z175 z176 z177 z178 z179 z180 z181 z182 z183 _ _ =>
 ck (z181 = z181) <|
 ck (0 ≤ z181) <|
 ck (z181 ≤ 1000000000) <|
 bl (z181 > 1) (
  F11.l30 N N z166 z167 z168 z169 z170 z171 z172 z173 z174 z175 z176 z177 z178 z179 z180 z181 z182 z183 (List.replicate (Int.toNat z181) 0) z180 fun z249 z250 _ _ _ _ _ _ _ _ z259 z260 z261 z262 _ _ z265 z266 _ _ _ =>
  F32.C N z249 z250 z259 z260 z261 z262 fun r270 r271 r272 r273 r274 r275 r276 r277 =>
  F33.C N r272 r273 r274 r275 r276 r277 r270 r271 z265 z266 fun r278 r279 r280 r281 r282 r283 =>
  F34.C N r278 r279 r280 r281 r282 r283 r270 r271 fun r284 r285 r286 r287 =>
  k0 z265 z266 r280 r281 r282 r283 r284 r285 r286 r287) <|
 F12.C N z166 z167 6 fun r186 r187 r188 =>
 F11.l18 N N r187 r188 z168 z169 z170 z171 z172 z173 z174 z175 z176 z177 z178 z179 z180 z181 z182 z183 (List.replicate (Int.toNat z181) 0) r186 fun z189 z190 z191 z192 z193 z194 z195 z196 z197 z198 z199 z200 z201 z202 z203 z204 z205 z206 z207 _ _ =>
 F11.l30 N N z189 z190 z191 z192 z193 z194 z195 z196 z197 z198 z199 z200 z201 z202 z203 z204 z205 z206 z207 z203 fun z210 z211 _ _ _ _ _ _ _ _ z220 z221 z222 z223 _ _ z226 z227 _ _ _ =>
 F32.C N z210 z211 z220 z221 z222 z223 fun r231 r232 r233 r234 r235 r236 r237 r238 =>
 F33.C N r233 r234 r235 r236 r237 r238 r231 r232 z226 z227 fun r239 r240 r241 r242 r243 r244 =>
 F34.C N r239 r240 r241 r242 r243 r244 r231 r232 fun r245 r246 r247 r248 =>
 k0 z226 z227 r241 r242 r243 r244 r245 r246 r247 r248) = k0 xp xq pl ro fa dr sf sd l a' := by
  have hs1 := hp.s1
  obtain ⟨d, a1, c1, y1, e1⟩ := draw_Next (β := β) (N := N) h 5
  obtain ⟨d, rfl⟩ := Int.eq_ofNat_of_zero_le y1.lo
  have d1 := y1.hi (by omega)
  obtain ⟨pl, a2, c2, p2, e2⟩ := made_places (β := β) (N := N) ⟨hs1, hp0⟩ d pl0 a1 c1 (by omega) hp
  have hn := p2.n; have hsn := p2.sn
  obtain ⟨xp, a3, c3, x1, x2, x3, e3⟩ := made_press (β := β) c2 hN pl hn hsn
  have z0 : List.replicate pl.length (0 : Int) = tab pl.length fun p => netF (([] : List Ro).zip []) p := by rw [tab_rep]; rfl
  by_cases c : pl.length = 1
  · obtain ⟨ro, xq, fa, dr, sf, sd, a4, c4, m4, e4⟩ := made_end (β := β) hN c3 p2 x1 x2 x3 (ro := []) (xq := []) (by simp) ⟨rfl, by simp, by simp, by simp⟩
    refine ⟨pl, ro, fa, dr, sf, sd, xp, xq, a4, c4, m4, fun k => ?_⟩
    rw [e1]
    refine (e2 N (by omega) fun z149 z150 z151 z152 z153 z154 z155 z156 z157 z158 z159 z160 z161 z162 z163 => _).trans ?_
    simp only [res, if_true, Int.toNat_natCast]
    rw [if_pos (by omega), if_pos (by omega)]
    refine (e3 fun z166 z167 z168 z169 z170 z171 z172 z173 z174 z175 z176 z177 z178 z179 z180 z181 z182 z183 => _).trans ?_
    simp only [if_true, Int.toNat_natCast]
    rw [if_pos (by omega), if_pos (by omega), if_neg (by omega), z0]
    exact e4 k
  · obtain ⟨d2, a4, c4, y4, e4⟩ := draw_Next (β := β) (N := N) c3 6
    obtain ⟨d2, rfl⟩ := Int.eq_ofNat_of_zero_le y4.lo
    have d4 := y4.hi (by omega)
    obtain ⟨ro1, xq1, a5, c5, n5, m5, e5⟩ := made_roads (β := β) (N := N) (n := pl.length) (by omega) pl (pl0.length : Int) xp d2 [] [] a4 c4 (by simp; omega) ⟨rfl, by simp, by simp, by simp⟩
    obtain ⟨ro, xq, fa, dr, sf, sd, a6, c6, m6, e6⟩ := made_end (β := β) hN c5 p2 x1 x2 x3 n5 m5
    refine ⟨pl, ro, fa, dr, sf, sd, xp, xq, a6, c6, m6, fun k => ?_⟩
    rw [e1]
    refine (e2 N (by omega) fun z149 z150 z151 z152 z153 z154 z155 z156 z157 z158 z159 z160 z161 z162 z163 => _).trans ?_
    simp only [res, if_true, Int.toNat_natCast]
    rw [if_pos (by omega), if_pos (by omega)]
    refine (e3 fun z166 z167 z168 z169 z170 z171 z172 z173 z174 z175 z176 z177 z178 z179 z180 z181 z182 z183 => _).trans ?_
    simp only [if_true, Int.toNat_natCast, e4]
    rw [if_pos (by omega), if_pos (by omega), if_pos (by omega), z0]
    refine (e5 N (by omega) fun z189 z190 z191 z192 z193 z194 z195 z196 z197 z198 z199 z200 z201 z202 z203 z204 z205 z206 z207 => _).trans ?_
    exact e6 k
include hN in
/-- Made. -/
theorem draw_Made {l : List Int} {a : Int} (h : Cod l a) : ∃ pl ro fa dr sf sd xp xq a', Cod l a' ∧ MadeOk pl ro fa dr sf sd xp xq ∧
    ∀ k : List Int → List Int → List Pl → List Ro → List Fa → List Do → List Int → List Int → List Int → Int → Option β, F11.C N l a k = k xp xq pl ro fa dr sf sd l a' := by
  obtain ⟨b, a1, c1, e1⟩ := draw_One (β := β) (N := N) h 3
  cases b with
  | true =>
    obtain ⟨pl, ro, fa, dr, sf, sd, xp, xq, a2, c2, m2, e2⟩ := made_tail (β := β) hN c1 (pl0 := [(0, true)] ++ [(10, true)]) (by simp) ⟨by simp, by simp, by simp, fun p hp => by
      simp at hp; rcases hp with rfl | rfl <;> simp, fun j p hj => by
      have := idx hj
      simp at this
      obtain rfl | rfl : j = 0 ∨ j = 1 := by omega
      · simp at hj; subst hj; simp
      · simp at hj; subst hj; simp⟩
    refine ⟨pl, ro, fa, dr, sf, sd, xp, xq, a2, c2, m2, fun k => ?_⟩
    rw [F11.C_eq]; unfold F11.K
    rw [e1]
    exact e2 k
  | false =>
    obtain ⟨pl, ro, fa, dr, sf, sd, xp, xq, a2, c2, m2, e2⟩ := made_tail (β := β) hN c1 (pl0 := [(0, true)]) (by simp) ⟨by simp, by simp, by simp, fun p hp => by
      simp at hp; subst hp; simp, fun j p hj => by
      have := idx hj
      simp at this
      subst this
      simp at hj; subst hj; simp⟩
    refine ⟨pl, ro, fa, dr, sf, sd, xp, xq, a2, c2, m2, fun k => ?_⟩
    rw [F11.C_eq]; unfold F11.K
    rw [e1]
    exact e2 k
end Go.Vi.B
/- minecontrol/minecontrollaw09.awake -/
namespace Go.Vi.B
open Go.Proofs
set_option linter.unusedVariables false
set_option maxRecDepth 100000
abbrev F16.i : Sh := []
abbrev F16.o0 : Sh := [(0, .one .bool)]
noncomputable def F16.K {β : Type} (N : Nat) (k0 : Bool → Option β) : Option β :=
 F19.C N [(0, true), (0, true)] [(0, (1, (1, (1, (false, (false, ((2, 2), (0, 0))))))))] [] [] [] [] fun r1 =>
 bl r1 (k0 false) <|
 F23.C N [(0, true), (0, true)] [(0, (1, (1, (1, (false, (false, ((2, 2), (0, 0))))))))] [] [] [] [] 0 10 fun r2 r3 =>
 bl ((r2 == 200) && ((r3 == 200) && true)) (k0 false) <|
 F25.C N [(0, true), (0, true)] [(0, (1, (1, (1, (false, (false, ((2, 2), (0, 0))))))))] [] [] [] [] 0 199 fun r4 r5 =>
 bl ((r4 == 9) && ((r5 == 10) && true)) (k0 false) <|
 F27.C N [(0, true), (0, true)] [(0, (1, (1, (1, (false, (false, ((2, 2), (0, 0))))))))] [] [] [] [] [0, 0] [0] fun r6 =>
 k0 (decide (r6 = 0))
noncomputable def F16.fx : Fx := ⟨Try.prog, [], [], [(0,[]),(1,[1]),(2,[2]),(3,[0])], 38, []⟩
noncomputable def F16.cs (N : Nat) : List (Ctr Try.prog) := [F19.X N, F23.X N, F25.X N, F27.X N]
noncomputable def F16.C {β : Type} (N : Nat) := (Sealed fun β => @F16.K β).1 β N
theorem F16.C_eq {β : Type} (N : Nat) : @F16.C β N = @F16.K β N := congrFun (congrFun (Sealed fun β => @F16.K β).2 β) N
noncomputable def F16.X (N : Nat) : Ctr Try.prog := mkF 16 Try.f16 F16.fx (F16.cs N) [] F16.i (fun x k => F16.C N (fun r0 => k (Sh.mk F16.o0 (r0, ())))) (by intros; rw [F16.C_eq]; kernel_rfl) (by kernel_rfl) (by kernel_rfl) (by kernel_rfl) (by kernel_rfl) rfl (by kernel_rfl) rfl (by kernel_rfl) (by kernel_rfl) (by kernel_rfl) (.dead _ 16) rfl
end Go.Vi.B
/- The sanity check of chapter 9. -/
namespace Go.Vi.B
open Go.Proofs Go.Vi.A
set_option linter.unusedVariables false
set_option linter.unusedSimpArgs false
set_option maxRecDepth 100000
variable {β : Type} {N : Nat} (hN : 1000 ≤ N)
include hN in
theorem awake (k : Bool → Option β) : F16.C N k = k true := by
  rw [F16.C_eq]; unfold F16.K
  have e1 : rightE [(0, true), (0, true)] [(0, (1, (1, (1, (false, (false, ((2, 2), (0, 0))))))))] [] [] [] [] = 0 := by decide +kernel
  have e2 : dropS [(0, true), (0, true)] [(0, (1, (1, (1, (false, (false, ((2, 2), (0, 0))))))))] [] [] [] [] 0 10 = (200, 200) := by decide +kernel
  have e3 : flowS [(0, true), (0, true)] [(0, (1, (1, (1, (false, (false, ((2, 2), (0, 0))))))))] [] [] [] [] 0 199 = (9, 10) := by decide +kernel
  have e4 : fitsE [(0, true), (0, true)] [(0, (1, (1, (1, (false, (false, ((2, 2), (0, 0))))))))] [] [] [] [] [0, 0] [0] = 0 := by decide +kernel
  rw [branch_Right hN, nz, e1]
  simp only [decide_true, res]
  rw [branch_Drop hN, e2]
  simp only [beq_self_eq_true, Bool.and_self, res]
  rw [branch_Flow hN, e3]
  simp only [beq_self_eq_true, Bool.and_self, res]
  rw [branch_Fits hN, e4]
  simp only [decide_true]
end Go.Vi.B
