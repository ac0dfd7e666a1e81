/- Lemmas for the proofs of this seat's statements, part 2; each holds without conditions beyond its own premises. -/
import Derived.Test.YtmidpecdjddlkaaZa
import Derived.Below
import Derived.Deep.Slices
import Derived.ChangeArms
import Derived.ChangeSame
import Derived.KernelRfl
import Derived.Laws.BitsLemmas
/- Parts of slices, and new slices. -/
namespace Go.Vi
set_option linter.unusedVariables false
set_option linter.unusedSimpArgs false
variable {P : Program} {orc : Orc} {C : Ct} {nt : Nat} {σ σ' : St} {w w' : World} {Im Im' Pn : Nat → Prop} {D D' : Nat → SD} {own own' : Nat → Option Tag} {a : Act} {lg : List Ac}

def loIs (lo : Option Value) (l : Nat) : Prop := (lo = none ∧ l = 0) ∨ ∃ k i, lo = some (.int k i) ∧ 0 ≤ i ∧ i.toNat = l
theorem bndLo_run {lo : Option Value} {h : Nat} {f : Nat → M} (hr : Run orc (bndLo lo h f) σ lg) : ∃ l, Run orc (f l) σ lg ∧ loIs lo l ∧ (lo = none ∨ l ≤ h) := by
  unfold bndLo at hr
  split at hr
  · exact ⟨0, hr, .inl ⟨rfl, rfl⟩, .inl rfl⟩
  · rename_i k l
    cases hr with
    | ite hr =>
      generalize h0 : decide (0 ≤ l) = z at hr
      cases z with
      | false => cases hr
      | true =>
        cases hr with
        | ite hr =>
          generalize h1 : decide (l.toNat ≤ h) = z at hr
          cases z with
          | false => cases hr
          | true => exact ⟨_, hr, .inr ⟨k, l, rfl, by simpa using h0, rfl⟩, .inr (by simpa using h1)⟩
  · cases hr
theorem bndHi_run {hi : Option Value} {n : Nat} {f : Nat → M} (hr : Run orc (bndHi hi n f) σ lg) : ∃ h, Run orc (f h) σ lg ∧ h ≤ n ∧ ((hi = none ∧ h = n) ∨ ∃ k i, hi = some (.int k i) ∧ 0 ≤ i ∧ i.toNat = h) := by
  unfold bndHi at hr
  split at hr
  · exact ⟨n, hr, Nat.le_refl _, .inl ⟨rfl, rfl⟩⟩
  · rename_i k l
    cases hr with
    | ite hr =>
      generalize h0 : decide (0 ≤ l) = z at hr
      cases z with
      | false => cases hr
      | true =>
        cases hr with
        | ite hr =>
          generalize h1 : decide (l.toNat ≤ n) = z at hr
          cases z with
          | false => cases hr
          | true => exact ⟨_, hr, by simpa using h1, .inr ⟨k, l, rfl, by simpa using h0, rfl⟩⟩
  · cases hr
theorem run_slice_of {t e : TypeId} (hu : P.underlying t = some (.slice e)) (hz : P.cellsOf e ≠ 0) {q : Option Addr} {len cap : Nat} {lo hi : Option Value} {l h : Nat} (hlo : loIs lo l) (hhi : (hi = none ∧ h = len) ∨ ∃ k i, hi = some (.int k i) ∧ 0 ≤ i ∧ i.toNat = h) (h1 : l ≤ h) (h2 : h ≤ cap) :
    (Instr.sliceAt t (.slice q len cap) lo hi none).run P w = .ok (sliced q l h cap (P.cellsOf e)) w := by
  have hue : P.underlying t = some (.slice (P.elem t)) := by rw [elem_of hu]; exact hu
  rw [run_sliceAt_slice w t _ _ _ _ hue]
  rcases hlo with ⟨rfl, rfl⟩ | ⟨k, i, rfl, hi0, rfl⟩
  · rcases hhi with ⟨rfl, rfl⟩ | ⟨k', j, rfl, hj0, rfl⟩
    · rw [run_slice_all w t q _ cap hue, elem_of hu, run_sizeOf' hz]; rfl
    · rw [run_slice_h w t q len cap hue k' j hj0 (by omega), elem_of hu, run_sizeOf' hz]; rfl
  · rcases hhi with ⟨rfl, rfl⟩ | ⟨k', j, rfl, hj0, rfl⟩
    · rw [run_slice_l w t q _ cap hue k i hi0 (by omega), elem_of hu, run_sizeOf' hz]; rfl
    · rw [run_slice_lh w t q len cap hue k k' i j hi0 (by omega) (by omega), elem_of hu, run_sizeOf' hz]; rfl
theorem mul_le_of {n m k : Nat} (h : n ≤ m) : n * k ≤ m * k := Nat.mul_le_mul_right k h
theorem RepG.part {α : Type} {wd : Nat} {ρ : α → List Value → List Nat → Prop} {xs : List α} {cs : List Value} {fss : List (List Nat)} (h : RepG wd ρ xs cs fss) (l m : Nat) (hl : l ≤ m) (hm : m ≤ xs.length) :
    RepG wd ρ ((xs.take m).drop l) ((cs.drop (l * wd)).take ((m - l) * wd)) ((fss.take m).drop l) := by
  obtain ⟨h1, h2, h3⟩ := h
  have e1 := mul_le_of (k := wd) hl
  have e2 := mul_le_of (k := wd) hm
  have e3 : (m - l) * wd = m * wd - l * wd := Nat.sub_mul m l wd
  refine ⟨?_, ?_, fun i x hx => ?_⟩
  · simp only [List.length_take, List.length_drop]
    rw [h1, e3, Nat.min_eq_left hm, ← e3]
    omega
  · simp [h2]
  · rw [List.getElem?_drop, List.getElem?_take] at hx ⊢
    split at hx
    · rename_i hlt
      rw [if_pos hlt]
      obtain ⟨f, a1, a2⟩ := h3 _ x hx
      refine ⟨f, a1, ?_⟩
      have e4 : (l + i) * wd = l * wd + i * wd := Nat.add_mul l i wd
      have e5 : (l + i) * wd + wd ≤ m * wd := by
        have := mul_le_of (k := wd) (show l + i + 1 ≤ m from hlt)
        rwa [Nat.add_mul, Nat.one_mul] at this
      rw [List.drop_take, List.take_take, List.drop_drop, ← e4, show min wd ((m - l) * wd - i * wd) = wd by omega]
      exact a2
    · cases hx
theorem ok_slice {o : Oper} {t : TypeId} {x : Operand} {lo hi : Option Operand} (ho : o.op = .slice t x lo hi none) {cx : Cx} (hP : cx.P = P) (hd : dOk C nt o.dst) (hf : ∀ d, o.dst = some d → σ.fresh d) (hm : RM C σ w Im D own) (ht : RT C nt σ w Im D a) {v : V} (k1 : VOk w Im C.Pn σ D v (a.eval x))
    {lv hv : Option Value} (hlv : lo.map a.eval = lv) (hhv : hi.map a.eval = hv) (h : Run orc (sliceM cx o.dst t v lv hv) σ lg) : OpOk P C nt o a w (apps lg σ) := by
  subst hP
  have exec : ∀ {cv}, (Instr.sliceAt t (a.eval x) lv hv none).run cx.P w = .ok cv w → (execOp a.eval o).run cx.P w = .ok (.value cv) w := by
    intro cv hr
    simp only [execOp, ho, hlv, hhv]
    exact exec_v hr
  unfold sliceM at h
  split at h
  · rename_i et hu
    split at h
    · rename_i m e k xs
      split at h
      · cases h
      · rename_i hne
        split at h
        · rename_i hkw
          have hz : cx.P.cellsOf et ≠ 0 := by have := Kd.w_pos k; omega
          obtain ⟨hh, h1, hle, hhi⟩ := bndHi_run h
          obtain ⟨l, h2, hlo, hll⟩ := bndLo_run h1
          have hlh : l ≤ hh := by
            rcases hll with hll | hll
            · rcases hlo with ⟨_, rfl⟩ | ⟨_, _, h', _⟩
              · omega
              · rw [hll] at h'; cases h'
            · exact hll
          have fin : ∀ (S : Nat → Prop), Frz w S k xs (a.eval x) → ∃ cv, (execOp a.eval o).run cx.P w = .ok (.value cv) w ∧ Frz w S k ((xs.take hh).drop l) cv := by
            intro S hfz
            rcases hfz with ⟨rfl, q, cap, hx⟩ | ⟨b, p, cap, arr, e', fr, fss, hx, hc, hb, hib, hr, hff⟩
            · simp only [List.length_nil, Nat.le_zero] at hle
              subst hle
              have hl0 : l = 0 := by omega
              subst hl0
              refine ⟨_, exec (by rw [hx]; exact run_slice_of hu hz hlo hhi (Nat.le_refl _) (Nat.zero_le _)), .inl ⟨by simp, ?_⟩⟩
              exact ⟨_, _, rfl⟩
            · refine ⟨_, exec (by rw [hx]; exact run_slice_of hu hz hlo hhi hlh (by omega)), ?_⟩
              have hlen : ((xs.take hh).drop l).length = hh - l := by simp; omega
              by_cases hcl : cap = l
              · refine .inl ⟨?_, ?_⟩
                · apply List.eq_nil_of_length_eq_zero
                  rw [hlen]; omega
                · unfold sliced
                  rw [show hh - l = 0 by omega]
                  exact ⟨_, _, rfl⟩
              · refine .inr ⟨b, p + l * k.w, cap - l, arr, e', fr, (fss.take hh).drop l, ?_, by rw [hlen]; omega, hb, hib, ?_, fun f hf' => hff f (List.mem_of_mem_take (List.mem_of_mem_drop hf'))⟩
                · unfold sliced
                  rw [if_neg hcl, hlen, hkw]
                  simp [Addr.add_lit]
                · have := hr.part l hh hlh hle
                  rw [hlen]
                  have e2 := mul_le_of (k := k.w) hle
                  have e3 : (hh - l) * k.w = hh * k.w - l * k.w := Nat.sub_mul hh l k.w
                  have hcs : (((arr.toList.drop p).take (xs.length * k.w)).drop (l * k.w)).take ((hh - l) * k.w) = (arr.toList.drop (p + l * k.w)).take ((hh - l) * k.w) := by
                    rw [List.drop_take, List.take_take, List.drop_drop, show min ((hh - l) * k.w) (xs.length * k.w - l * k.w) = (hh - l) * k.w by omega]
                  rw [hcs] at this
                  exact this
          cases m with
          | own => exact absurd rfl hne
          | frz =>
            obtain ⟨cv, r1, r2⟩ := fin Im k1
            exact .value r1 (putM_ok hm ht hd h2 r2)
          | pin =>
            obtain ⟨cv, r1, r2⟩ := fin C.Pn k1
            exact .value r1 (putM_ok hm ht hd h2 r2)
        · cases h
    · rename_i id off d hdst
      obtain ⟨virt, ls, m, e, k, xs, lg', hg, hl, hp, hr, hap⟩ := listM_run h
      rw [hap]
      split at hr
      · rename_i hlvn
        split at hr
        · rename_i hkw
          have hz : cx.P.cellsOf et ≠ 0 := by have := Kd.w_pos k; omega
          obtain ⟨hh, h1, hle, hhi⟩ := bndHi_run hr
          cases h1 with
          | wr h1 => cases h1 with
            | wr h1 => cases h1 with
              | wr h1 => cases h1 with
                | ret =>
                  obtain ⟨v', f, D', own', t1, ext, t3, t4⟩ := take_own hm ht hg hl 0
                  have hval : (D id).vs[off]? = some (a.eval x) := k1 virt ls _ e k xs hg hl hp
                  have hvv : v' = a.eval x := by rw [hval] at t1; cases t1; rfl
                  subst hvv
                  obtain ⟨cs, fss, hown, hrep, hff, hnd⟩ := t3
                  have hlen : (xs.take hh).length = hh := by simp; omega
                  have hrp := hrep.part 0 hh (Nat.zero_le _) hle
                  simp only [List.drop_zero, Nat.zero_mul, Nat.sub_zero] at hrp
                  have fin : ∀ {q : Option Addr} {cap : Nat}, a.eval x = .slice q xs.length cap → hh ≤ cap → ((w.ownsRow 0 e k.w (.slice q hh cap) hh (cs.take (hh * k.w)))) → OpOk cx.P C nt o a w (((σ.set (2 * id + 1) (some (.slot virt (ls.set off .undef)))).set (2 * d + 1) (some (.slot true [.lst .own e k (xs.take hh)]))).set (2 * d) (some (.one (.view d 0)))) := by
                    intro q cap hx hcap hrow
                    have hsl : sliced q 0 hh cap (cx.P.cellsOf et) = .slice q hh cap := by
                      unfold sliced
                      simp only [Nat.zero_mul, Nat.sub_zero]
                      split
                      · rfl
                      · cases q <;> simp [Addr.add_zero']
                    refine .value (exec (by rw [hx]; exact run_slice_of hu hz (.inl ⟨rfl, rfl⟩) hhi (Nat.zero_le _) hcap)) ?_
                    rw [hsl, hdst]
                    have hflat : (fss.take hh).flatten.Sublist fss.flatten := sublist_flatten (List.take_sublist _ _)
                    refine R.newList ext.rm ext.rt (hd d hdst) (fresh_of_even ext.ev (hf d hdst)) (n := 0) (f := (Value.slice q hh cap).ownBlock.toList ++ (fss.take hh).flatten) ⟨_, _, by rw [hlen]; exact hrow, hrp, rfl, ?_⟩ (fun z hz => t4 z ?_)
                    · rw [hff, hx] at hnd
                      have hob : (Value.slice q xs.length cap).ownBlock = (Value.slice q hh cap).ownBlock := by cases q <;> rfl
                      rw [hob] at hnd
                      exact hnd.sublist (List.Sublist.append (List.Sublist.refl _) hflat)
                    · rw [hff, hx]
                      have hob : (Value.slice q xs.length cap).ownBlock = (Value.slice q hh cap).ownBlock := by cases q <;> rfl
                      rw [hob]
                      rcases List.mem_append.1 hz with hz | hz
                      · exact List.mem_append_left _ hz
                      · exact List.mem_append_right _ (hflat.subset hz)
                  rcases hown with ⟨hcl, ⟨hnil, h0⟩ | ⟨g, cap, cur, hsl, hb, hg', hcap, hmx, hsz, htk⟩⟩
                  · have hh0 : hh = 0 := by omega
                    subst hh0
                    exact fin (q := none) (cap := 0) (by rw [hnil, h0]) (Nat.le_refl _) ⟨by simp, .inl ⟨rfl, rfl⟩⟩
                  · refine fin hsl (by omega) ⟨?_, .inr ⟨g, cap, cur, rfl, hb, hg', by omega, hmx, hsz, ?_⟩⟩
                    · have := mul_le_of (k := k.w) hle
                      simp only [List.length_take]
                      omega
                    · rw [← htk, List.take_take]
                      congr 1
                      have := mul_le_of (k := k.w) hle
                      omega
        · cases hr
      · cases hr
    · cases h
  · cases h
/-! ### make -/
theorem absorbNil_l3 {ks : List Kd} : ∀ {vs : List Value}, (∀ v ∈ vs, v.oneCell' = true) → L3 w Im Pn ((fixLs ks (vs.map .sc)).map fun
      | .nil e k => .lst .own e k []
      | l => l) vs (vs.map fun _ => []) := by
  intro vs
  induction vs generalizing ks with
  | nil => intro _; cases ks <;> exact trivial
  | cons v r ih =>
    intro h
    have hv := h v (by simp)
    have hr := fun (ks : List Kd) => ih (ks := ks) (fun x hx => h x (by simp [hx]))
    cases ks with
    | nil =>
      refine ⟨⟨rfl, hv, rfl⟩, ?_⟩
      have := hr []
      cases r <;> exact this
    | cons k ks =>
      refine ⟨?_, hr ks⟩
      have nilOk : ∀ (e : TypeId) (k : Kd), LeafOk w Im Pn (.lst .own e k []) (.slice none 0 0) [] := fun e k => ⟨[], [], ⟨by simp, .inl ⟨rfl, rfl⟩⟩, ⟨by simp, rfl, fun i x hx => by simp at hx⟩, rfl, List.nodup_nil⟩
      unfold fixLf
      split
      · rename_i heq; cases heq; exact nilOk _ _
      · rename_i heq; cases heq; exact nilOk _ _
      · exact ⟨rfl, hv, rfl⟩
theorem flatten_nils {α β : Type} (l : List α) : (l.map fun _ => ([] : List β)).flatten = [] := by induction l <;> simp_all
theorem widthOk_spec {e : TypeId} {k : Kd} (h : widthOk P e k = true) : ∃ i z, P.info? e = some i ∧ i.zero = some z ∧ i.size = k.w ∧ z.cells.size = k.w ∧ i.bytes ≤ 65536 ∧ (∀ v ∈ z.cells.toList, v.oneCell' = true) := by
  unfold widthOk at h
  split at h
  · rename_i i hi
    split at h
    · rename_i z hz
      simp only [Bool.and_eq_true, beq_iff_eq, decide_eq_true_eq] at h
      exact ⟨i, z, hi, hz, h.1.1.1.1, h.1.1.2, h.1.2, ones_get h.2⟩
    · cases h
  · cases h
theorem madeCells_part (z : Array Value) (n i : Nat) (hi : i < n) (hz : 0 < z.size) : (((madeCells z (n * z.size)).toList.drop (i * z.size)).take z.size) = z.toList := by
  have h1 := mul_le_of (k := z.size) (show i + 1 ≤ n from hi)
  rw [Nat.add_mul, Nat.one_mul] at h1
  apply List.ext_getElem?
  intro j
  rw [List.getElem?_take, List.getElem?_drop]
  by_cases hj : j < z.size
  · rw [if_pos hj]
    simp only [madeCells, Array.toList_map, Array.toList_range, List.getElem?_map]
    rw [List.getElem?_range (by omega)]
    simp only [Option.map_some]
    rw [Nat.add_comm, Nat.add_mul_mod_self_right, Nat.mod_eq_of_lt hj]
    simp [hj]
  · rw [if_neg hj]
    simp; omega
theorem ok_makeSlice {o : Oper} {t : TypeId} {x y : Operand} (ho : o.op = .makeSlice t x y) {cx : Cx} (hP : cx.P = P) (hd : dOk C nt o.dst) (hf : ∀ d, o.dst = some d → σ.fresh d) (hm : RM C σ w Im D own) (ht : RT C nt σ w Im D a) (h : Run orc (opM cx o) σ lg) : OpOk P C nt o a w (apps lg σ) := by
  subst hP
  unfold opM at h
  rw [ho] at h
  obtain ⟨n1, lg1, h1, e1, k1, _⟩ := scM_run ht h
  obtain ⟨n2, lg2, h2, e2, k2, _⟩ := scM_run ht h1
  rw [e1, e2]
  split at h2
  · rename_i p q _ _
    cases h2 with
    | ite h2 =>
      generalize hpq : decide (p = q) = z at h2
      cases z with
      | false => cases h2
      | true =>
        have hpq : p = q := by simpa using hpq
        subst hpq
        dsimp only at h2
        unfold makeM at h2
        split at h2
        · rename_i d e n hdst hu hn
          cases hn
          split at h2
          · rename_i k hk
            split at h2
            · cases h2
            · rename_i hwd
              have hwd : widthOk cx.P e k = true := by simpa using hwd
              obtain ⟨i, z, hi, hz, hsz, hzs, hby, hone⟩ := widthOk_spec hwd
              split at h2
              · rename_i z0 hz0
                cases h2 with
                | ite h2 =>
                  generalize hp0 : decide (0 ≤ p) = zz at h2
                  cases zz with
                  | false => cases h2
                  | true =>
                    have hp0 : 0 ≤ p := by simpa using hp0
                    cases h2 with
                    | ite h2 =>
                      generalize hpm : decide (p ≤ 1000000000) = zz at h2
                      cases zz with
                      | false => cases h2
                      | true =>
                        have hpm : p ≤ 1000000000 := by simpa using hpm
                        cases h2 with
                        | wr h2 => cases h2 with
                          | wr h2 => cases h2 with
                            | ret =>
                              have hbi : (i.bytes : Int) * p ≤ 281474976710656 := by
                                have h1 : (i.bytes : Int) ≤ 65536 := by omega
                                have h2 : (i.bytes : Int) * p ≤ 65536 * 1000000000 := Int.mul_le_mul h1 hpm hp0 (by omega)
                                omega
                              have hrun := run_make (P := cx.P) w t e i z hu hi hz .i64 .i64 p p hp0 (Int.le_refl _) hbi (by omega)
                              have hg := Grows.alloc w (.cells (madeCells z.cells (p.toNat * i.size)) e)
                              have hnew := heap_alloc_new w (.cells (madeCells z.cells (p.toNat * i.size)) e)
                              have hm1 := hm.grow hg
                              have hm2 := hm1.tag (.fl 0) hm.own_new (fun hi => absurd (hm.imlt _ hi) (Nat.lt_irrefl _)) hm.size hnew
                              -- the zero element
                              have hzr : RepK (w.alloc (.cells (madeCells z.cells (p.toNat * i.size)) e)) Im k z0 z.cells.toList [] := by
                                unfold zeroK at hz0
                                rw [hi] at hz0
                                dsimp only at hz0
                                rw [hz] at hz0
                                dsimp only at hz0
                                obtain ⟨f, fr, r1, r2, r3, _⟩ := ofL_ok (w := w.alloc (.cells (madeCells z.cells (p.toNat * i.size)) e)) (Im := Im) (Pn := C.Pn) hm.pnim k hz0 (absorbNil_l3 hone)
                                rw [flatten_nils] at r2 r3
                                have hf0 : f = [] := List.eq_nil_iff_forall_not_mem.2 fun b hb => by have := r2 b hb; simp at this
                                subst hf0
                                exact RepK.imp (fun _ _ => rfl) (fun b hb => hb.elim (fun h => h) fun hb => by have := r3 b hb; simp at this) (fun _ hb => by cases hb) r1
                              have hlen : (List.replicate p.toNat z0).length = p.toNat := by simp
                              refine .value (w' := w.alloc (.cells (madeCells z.cells (p.toNat * i.size)) e)) (by simp only [execOp, ho, k1, k2]; exact exec_v hrun) ?_
                              rw [hdst]
                              refine R.newList hm2 (RT.grow hm ht hg) (hd d hdst) (hf d hdst) (n := 0) (f := [w.heap.size]) ⟨(madeCells z.cells (p.toNat * i.size)).toList, List.replicate p.toNat [], ⟨?_, .inr ⟨w.heap.size, p.toNat, _, ?_, Nat.zero_le _, hnew, ?_, ?_, ?_, ?_⟩⟩, ⟨?_, by simp, fun j u hu => ?_⟩, ?_, by simp⟩ (fun b hb => by simp at hb; subst hb; simp)
                              · rw [hlen]; simp [size_madeCells, hsz]
                              · rw [hlen]
                              · rw [hlen]; exact Nat.le_refl _
                              · simp [maxLen]; omega
                              · rw [size_madeCells, hsz]
                              · rw [hlen, hsz]
                                apply List.take_of_length_le
                                simp [size_madeCells]
                              · rw [hlen]; simp [size_madeCells, hsz]
                              · have hj : j < p.toNat := by rw [← hlen]; exact (List.getElem?_eq_some_iff.1 hu).1
                                have hue : u = z0 := by
                                  rw [List.getElem?_replicate] at hu
                                  simp [hj] at hu
                                  exact hu.symm
                                subst hue
                                refine ⟨[], by simp [hj], ?_⟩
                                have hzp : 0 < z.cells.size := by rw [hzs]; exact Kd.w_pos k
                                have := madeCells_part z.cells p.toNat j hj hzp
                                rw [hzs, ← hsz] at this
                                have h3 : (List.drop (j * k.w) (madeCells z.cells (p.toNat * i.size)).toList).take k.w = z.cells.toList := by rw [← hsz]; exact this
                                rw [h3]
                                exact hzr
                              · simp [Value.ownBlock]
              · cases h2
          · cases h2
        · cases h2
  · cases h2
end Go.Vi
/- Literals. -/
namespace Go.Vi
set_option linter.unusedVariables false
set_option linter.unusedSimpArgs false
variable {P : Program} {orc : Orc} {C : Ct} {nt : Nat} {σ σ' : St} {w w' : World} {Im Im' Pn : Nat → Prop} {D D' : Nat → SD} {own own' : Nat → Option Tag} {a : Act} {lg : List Ac}

theorem partsM_run (ht : RT C nt σ w Im D a) : ∀ (xs : List Operand) {f : List V → M} {lg : List Ac}, Run orc (partsM xs f) σ lg → ∃ vs lg', Run orc (f vs) σ lg' ∧ apps lg σ = apps lg' σ ∧ All2 (VOk w Im C.Pn σ D) vs (xs.map a.eval)
  | [], f, lg, h => ⟨[], lg, h, rfl, trivial⟩
  | x :: r, f, lg, h => by
    obtain ⟨v, lg1, h1, e1, k1⟩ := valM_run ht h
    obtain ⟨vs, lg2, h2, e2, k2⟩ := partsM_run ht r h1
    exact ⟨v :: vs, lg2, h2, e1.trans e2, k1, k2⟩
theorem foldl_set : ∀ (vs : List Value) (k off : Nat) (arr : Array Value), off + k + vs.length ≤ arr.size → ((vs.zipIdx k).foldl (fun (cs : Array Value) (p : Value × Nat) => cs.setIfInBounds (off + p.2) p.1) arr).toList = setRange arr.toList (off + k) vs
  | [], k, off, arr, _ => by simp [setRange]
  | v :: r, k, off, arr, h => by
    simp only [List.length_cons] at h
    simp only [List.zipIdx_cons, List.foldl_cons]
    rw [foldl_set r (k + 1) off _ (by simp; omega)]
    apply List.ext_getElem?
    intro j
    rw [setRange_get (by simp; omega), setRange_get (by simp; omega)]
    simp only [Array.toList_setIfInBounds, List.length_cons]
    by_cases h1 : off + (k + 1) ≤ j ∧ j < off + (k + 1) + r.length
    · rw [if_pos h1, if_pos (by omega), show j - (off + k) = (j - (off + (k + 1))) + 1 by omega, List.getElem?_cons_succ]
    · rw [if_neg h1]
      by_cases h2 : j = off + k
      · subst h2
        have hlt : off + k < arr.size := by omega
        rw [if_pos (by omega), List.getElem?_set]
        simp [hlt]
      · rw [if_neg (by omega), List.getElem?_set_ne (by omega)]
theorem fold_cells {v : Value} {vs : List Value} (hv : v.cells.toList = vs) (off : Nat) (arr : Array Value) (h : off + vs.length ≤ arr.size) :
    (v.cells.zipIdx.foldl (fun (cs : Array Value) (p : Value × Nat) => cs.setIfInBounds (off + p.2) p.1) arr).toList = setRange arr.toList off vs := by
  have := foldl_set vs 0 off arr (by simpa using h)
  rw [Nat.add_zero] at this
  rw [← this, ← hv, ← Array.foldl_toList]
  simp [Array.toList_zipIdx]
theorem VOk.cells' {u : V} {v : Value} (h : VOk w Im C.Pn σ D u v) (h1 : ∀ l, u = .one l → v.oneCell' = true) (h2 : (∃ l, u = .one l) ∨ ∃ ls, u = .agg ls) : ∃ vs, All2 (TLeaf w Im C.Pn σ D) u.leaves vs ∧ v.cells.toList = vs := by
  cases u with
  | one l =>
    refine ⟨[v], ⟨h, trivial⟩, ?_⟩
    have := h1 l rfl
    cases v <;> first | rfl | (simp [Value.oneCell'] at this)
  | agg ls =>
    obtain ⟨vs, h1, h2⟩ := h
    exact ⟨vs, h2, by rw [h1]; simp [Value.cells]⟩
  | tup us => rcases h2 with ⟨_, h2⟩ | ⟨_, h2⟩ <;> cases h2
  | slot _ _ => exact h.elim
def Plain (u : V) (v : Value) : Prop := (∀ l, u = .one l → v.oneCell' = true) ∧ ((∃ l, u = .one l) ∨ ∃ ls, u = .agg ls)
theorem Plain.fix {u : V} {v : Value} (h : Plain u v) (ks : List Kd) : Plain (u.fix ks) v := by
  cases u with
  | one l =>
    have h1 := h.1 l rfl
    simp only [V.fix]
    split
    · exact ⟨fun _ _ => h1, .inl ⟨_, rfl⟩⟩
    · exact ⟨fun _ _ => h1, .inl ⟨_, rfl⟩⟩
  | agg ls => exact ⟨fun l e => (by cases e), .inr ⟨_, rfl⟩⟩
  | tup us => exact h
  | slot _ _ => exact h
theorem chksM_run (hm : RM C σ w Im D own) : ∀ {us : List V} {vs : List Value} {m : M} {lg : List Ac}, Run orc (chksM us m) σ lg → All2 (VOk w Im C.Pn σ D) us vs → ∃ lg', Run orc m σ lg' ∧ apps lg σ = apps lg' σ ∧ All2 Plain us vs
  | [], [], m, lg, h, _ => ⟨lg, h, rfl, trivial⟩
  | [], _ :: _, _, _, _, h => h.elim
  | _ :: _, [], _, _, _, h => h.elim
  | u :: us, v :: vs, m, lg, h, ha => by
    have next : ∀ {lg1}, Run orc (chksM us m) σ lg1 → Plain u v → apps lg σ = apps lg1 σ → ∃ lg', Run orc m σ lg' ∧ apps lg σ = apps lg' σ ∧ All2 Plain (u :: us) (v :: vs) := by
      intro lg1 h1 hp e1
      obtain ⟨lg2, h2, e2, h3⟩ := chksM_run hm h1 ha.2
      exact ⟨lg2, h2, e1.trans e2, hp, h3⟩
    unfold chksM at h
    have hu := ha.1
    split at h
    · rename_i id off
      obtain ⟨virt, ls, m', e, k, xs, lg', hg, hl, hp, hr, hap⟩ := listM_run h
      obtain ⟨f, _, _, _, q, c, hs⟩ := view_header hm hg hl hp hu
      exact next hr ⟨fun l _ => by rw [hs]; rfl, .inl ⟨_, rfl⟩⟩ hap
    · exact next h ⟨fun l _ => by rw [hu.1]; exact hu.2, .inl ⟨_, rfl⟩⟩ rfl
    · exact next h ⟨fun l _ => by rw [show v = .slice none 0 0 from hu]; rfl, .inl ⟨_, rfl⟩⟩ rfl
    · rename_i m' e k xs
      refine next h ⟨fun l _ => ?_, .inl ⟨_, rfl⟩⟩ rfl
      cases m' with
      | own => exact hu.elim
      | frz => obtain ⟨q, c, hs⟩ := FrzG.slice hu; rw [hs]; rfl
      | pin => obtain ⟨q, c, hs⟩ := FrzG.slice hu; rw [hs]; rfl
    · exact next h ⟨fun l e => (by cases e), .inr ⟨_, rfl⟩⟩ rfl
    · cases h
theorem fill_run {fs : List Field} {place : Nat → Option (Nat × Nat)} (hpl : ∀ i, place i = fs[i]?.map fun f => (f.offset, P.cellsOf f.type)) :
    ∀ (ids : List Nat) {ls ls' : List Lf} {arr : Array Value} {us : List V} {vs : List Value}, fillL P fs ls (ids.zip us) = some ls' → All2 (TLeaf w Im C.Pn σ D) ls arr.toList → All2 (VOk w Im C.Pn σ D) us vs → All2 Plain us vs →
      ∃ arr', Instr.fill place arr (ids.zip vs) = some arr' ∧ All2 (TLeaf w Im C.Pn σ D) ls' arr'.toList
  | [], ls, ls', arr, us, vs, h, hl, _, _ => by
    simp only [List.zip_nil_left, fillL] at h
    cases h
    exact ⟨arr, rfl, hl⟩
  | i :: ids, ls, ls', arr, [], [], h, hl, _, _ => by
    simp only [List.zip_nil_right, fillL] at h
    cases h
    exact ⟨arr, rfl, hl⟩
  | i :: ids, ls, ls', arr, u :: us, v :: vs, h, hl, hv, hp => by
    simp only [List.zip_cons_cons, fillL] at h
    split at h
    · rename_i f hf
      split at h
      · rename_i hc
        simp only [Bool.and_eq_true, decide_eq_true_eq] at hc
        obtain ⟨ns, n1, n2⟩ := (fix_ok (ks := leafsOf P f.type) hv.1).cells' (hp.1.fix _).1 (hp.1.fix _).2
        have hlen := n1.length
        have hal := hl.length
        have hsz : v.cells.size = P.cellsOf f.type := by rw [← hc.1, hlen, ← n2]; simp
        have hfit : f.offset + ns.length ≤ arr.size := by
          have : arr.toList.length = arr.size := by simp
          omega
        have hfold := fold_cells n2 f.offset arr hfit
        obtain ⟨arr', a1, a2⟩ := fill_run hpl ids (arr := v.cells.zipIdx.foldl (fun (cs : Array Value) (p : Value × Nat) => cs.setIfInBounds (f.offset + p.2) p.1) arr) h (by rw [hfold]; exact hl.setRange n1 _) hv.2 hp.2
        refine ⟨arr', ?_, a2⟩
        simp only [List.zip_cons_cons, Instr.fill]
        rw [hpl, hf]
        simp only [Option.map_some]
        have hcond : (decide (v.cells.size ≠ P.cellsOf f.type) || decide (f.offset + v.cells.size > arr.size)) = false := by
          simp only [Bool.or_eq_false_iff, decide_eq_false_iff_not]
          have : v.cells.size = ns.length := by rw [← n2]; simp
          exact ⟨fun h => h hsz, by omega⟩
        rw [if_neg (by rw [hcond]; simp)]
        exact a1
      · cases h
    · cases h
  | _ :: _, _, _, _, [], _ :: _, _, _, h, _ => h.elim
  | _ :: _, _, _, _, _ :: _, [], _, _, h, _ => h.elim
theorem run_sizeOf_info {t : TypeId} (h : (P.info? t).isSome = true) : (sizeOf t).run P w = .ok (P.cellsOf t) w := by
  cases hi : P.info? t with
  | none => rw [hi] at h; cases h
  | some i => simp [sizeOf, typeInfo, hi, Program.cellsOf]
theorem run_places : ∀ (fs : List Field), (fs.all fun f => (P.info? f.type).isSome) = true → (fs.mapM fun f => do pure (f.offset, ← sizeOf f.type) : Sem (List (Nat × Nat))).run P w = .ok (fs.map fun f => (f.offset, P.cellsOf f.type)) w
  | [], _ => by simp [List.mapM_nil]
  | f :: r, h => by
    simp only [List.all_cons, Bool.and_eq_true] at h
    simp only [List.mapM_cons, Sem.run_bind, run_sizeOf_info h.1, Result.andThen_ok, Sem.run_pure, run_places r h.2, List.map_cons]
theorem ok_build {o : Oper} {t : TypeId} {ps : Array (Nat × Operand)} (ho : o.op = .build t ps) {cx : Cx} (hP : cx.P = P) (hd : dOk C nt o.dst) (hm : RM C σ w Im D own) (ht : RT C nt σ w Im D a) (h : Run orc (opM cx o) σ lg) : OpOk P C nt o a w (apps lg σ) := by
  subst hP
  unfold opM at h
  rw [ho] at h
  dsimp only at h
  unfold buildM at h
  split at h
  · rename_i z hz
    split at hz
    · rename_i hc
      simp only [Bool.and_eq_true] at hc
      obtain ⟨hinfo, hag⟩ := hc
      obtain ⟨i, zv, hi, hzv, hzl⟩ := zeroL_ok (w := w) (Im := Im) (C := C) (σ := σ) (D := D) hz
      obtain ⟨us, lg1, h1, e1, k1⟩ := partsM_run ht _ h
      obtain ⟨lg2, h2, e2, k2⟩ := chksM_run hm h1 k1
      rw [e1, e2]
      split at h2
      · rename_i ls hls
        have hu : ∃ fs, cx.P.underlying t = some (.struct fs) := by
          unfold isAggT at hag
          split at hag
          · rename_i fs hu; exact ⟨fs, hu⟩
          · cases hag
        obtain ⟨fs, hu⟩ := hu
        have hft : fieldsT cx.P t = fs.toList := by unfold fieldsT; rw [hu]
        rw [hft] at hinfo hls
        have hpl : ∀ (i : Nat), ((fs.map fun (f : Field) => (f.offset, cx.P.cellsOf f.type))[i]?) = fs.toList[i]?.map fun (f : Field) => (f.offset, cx.P.cellsOf f.type) := by
          intro i; simp
        obtain ⟨arr', a1, a2⟩ := fill_run (P := cx.P) hpl _ hls hzl k1 k2
        have hzip : (ps.map fun (p : Nat × Operand) => (p.1, a.eval p.2)).toList = (ps.toList.map (·.1)).zip ((ps.toList.map (·.2)).map a.eval) := by
          simp only [Array.toList_map, List.map_map]
          induction ps.toList with
          | nil => rfl
          | cons p r ih => simp [ih]
        have hmap : (fs.mapM fun f => do pure (f.offset, ← sizeOf f.type) : Sem (Array (Nat × Nat))).run cx.P w = .ok (fs.map fun f => (f.offset, cx.P.cellsOf f.type)) w := by
          rw [Array.mapM_eq_mapM_toList, Sem.run_map, run_places fs.toList hinfo]
          simp only [Result.andThen_ok]
          congr 1
          apply Array.ext'
          simp
        have hrun : (Instr.build t (ps.map fun (p : Nat × Operand) => (p.1, a.eval p.2))).run cx.P w = .ok (.agg arr') w := by
          simp only [Instr.build, Sem.run_bind, zeroValue, typeInfo, run_program, hi, hzv, Result.andThen_ok, Sem.run_pure, run_underlying hu, hmap, hzip, a1]
        refine .value (cv := .agg arr') (by simp only [execOp, ho]; exact exec_v hrun) (putM_ok hm ht hd h2 ⟨arr'.toList, by simp, a2⟩)
      · cases h2
    · cases hz
  · cases h
end Go.Vi
/- Slices' literals. -/
namespace Go.Vi
set_option linter.unusedVariables false
set_option linter.unusedSimpArgs false
variable {P : Program} {orc : Orc} {C : Ct} {nt : Nat} {σ σ' : St} {w w' : World} {Im Im' Pn : Nat → Prop} {D D' : Nat → SD} {own own' : Nat → Option Tag} {a : Act} {lg : List Ac}

/-- What floats may be frozen, dropped or named anew. -/
theorem RM.reown (hm : RM C σ w Im D own) (h1 : ∀ x t, own x = some t → (∀ m, t ≠ .fl m) → own' x = some t) (h2 : ∀ x t, own' x = some t → ¬ Im' x ∧ ∃ u, own x = some u) (h3 : ∀ b, Im b → Im' b)
    (h4 : ∀ b, Im' b → Im b ∨ ∃ m, own b = some (.fl m)) : RM C σ w Im' D own' := by
  refine { hm with imlt := fun b hb => ?_, imfrom := fun b hb => ?_, ima := fun b hb => h3 b (hm.ima b hb), ow := fun b t hb => ?_, slot := fun id virt ls hg => ?_ }
  · rcases h4 b hb with hb | ⟨m, hb⟩
    · exact hm.imlt b hb
    · exact hm.olt hb
  · rcases h4 b hb with hb | ⟨m, hb⟩
    · exact hm.imfrom b hb
    · exact .inr (hm.ow b _ hb).2.1
  · obtain ⟨n1, u, hu⟩ := h2 b t hb
    exact ⟨n1, (hm.ow b u hu).2⟩
  · obtain ⟨s1, s2, s3⟩ := hm.slot id virt ls hg
    refine ⟨⟨s1.box, s1.vlen, s1.flen, fun i l hl => ?_⟩, fun hv => h1 _ _ (s2 hv) (by intro m; simp), fun i f x hf hx => h1 _ _ (s3 i f x hf hx) (by intro m; simp)⟩
    obtain ⟨v, f, a1, a2, a3⟩ := s1.leaf i l hl
    exact ⟨v, f, a1, a2, a3.imp (fun _ _ => rfl) h3 (fun _ _ => rfl) (fun _ _ => rfl)⟩
theorem RT.reim (hm : RM C σ w Im D own) (ht : RT C nt σ w Im D a) (h3 : ∀ b, Im b → Im' b) : RT C nt σ w Im' D a :=
  ht.imp (fun _ _ => rfl) h3 hm.pnim (fun _ _ h => h) fun t u id virt ls _ _ hs => ⟨ls, hs, fun _ => rfl, fun off m e k xs _ hl hp => ⟨m, e, xs, hl, hp, Nat.le_refl _, rfl⟩⟩
/-- Elements whose parts were taken. -/
def TakenL (w : World) (Im Pn : Nat → Prop) (own : Nat → Option Tag) : Nat → List (List Lf) → List (List Value) → List (List (List Nat)) → Prop
  | _, [], [], [] => True
  | n, l :: ls, v :: vs, f :: fs => Taken w Im Pn own n l v f ∧ TakenL w Im Pn own (n + l.length) ls vs fs
  | _, _, _, _ => False
theorem Taken.ext {fr : Nat → Prop} (h : Ext C nt a w σ Im D own σ' Im' D' own' fr) : ∀ {ls : List Lf} {vs : List Value} {fs : List (List Nat)} {n : Nat}, Taken w Im C.Pn own n ls vs fs → Taken w Im' C.Pn own' n ls vs fs
  | [], [], [], _, _ => trivial
  | _ :: _, _ :: _, _ :: _, n, t => ⟨⟨t.1.1.imp (fun _ _ => rfl) h.im (fun _ _ => rfl) (fun _ _ => rfl), fun x hx => h.fl x n (t.1.2 x hx)⟩, Taken.ext h t.2⟩
  | [], [], _ :: _, _, h => h.elim
  | [], _ :: _, _, _, h => h.elim
  | _ :: _, [], _, _, h => h.elim
  | _ :: _, _ :: _, [], _, h => h.elim
theorem absorbVs_ok {ks : List Kd} : ∀ (us : List V) {f : List (List Lf) → M} {σ : St} {Im : Nat → Prop} {D : Nat → SD} {own : Nat → Option Tag} {lg : List Ac} {cvs : List Value} (n : Nat) (hm : RM C σ w Im D own) (ht : RT C nt σ w Im D a)
    (h : Run orc (absorbVsM ks us f) σ lg) (hv : All2 (VOk w Im C.Pn σ D) us cvs),
    ∃ lss vss fss lg' σ' Im' D' own', Run orc (f lss) σ' lg' ∧ apps lg σ = apps lg' σ' ∧ Ext C nt a w σ Im D own σ' Im' D' own' (fun m => n ≤ m) ∧ TakenL w Im' C.Pn own' n lss vss fss ∧
      All2 (fun (v : Value) vs => vs ≠ [] → v.cells.toList = vs) cvs vss
  | [], f, σ, Im, D, own, lg, cvs, n, hm, ht, h, hv => by
    cases cvs with
    | nil => exact ⟨[], [], [], lg, σ, Im, D, own, h, rfl, { Ext.refl hm ht with fo := fun _ _ h => .inl h }, trivial, trivial⟩
    | cons _ _ => exact hv.elim
  | u :: us, f, σ, Im, D, own, lg, cvs, n, hm, ht, h, hv => by
    cases cvs with
    | nil => exact hv.elim
    | cons v cvs =>
      have hu := fix_ok (ks := ks) hv.1
      simp only [absorbVsM] at h
      by_cases h0 : (u.fix ks).leaves = []
      · rw [h0] at h
        simp only [absorbsM] at h
        obtain ⟨lss, vss, fss, lg2, σ2, Im2, D2, own2, r1, r2, r3, r4, r5⟩ := absorbVs_ok us n hm ht h hv.2
        exact ⟨[] :: lss, [] :: vss, [] :: fss, lg2, σ2, Im2, D2, own2, r1, r2, r3, ⟨trivial, r4⟩, fun h => absurd rfl h, r5⟩
      · obtain ⟨vs, hall, hcells⟩ := hu.cells h0
        obtain ⟨ls', lg1, σ1, Im1, D1, own1, fs, h1, e1, ext1, htk⟩ := absorbs_ok _ n hm ht h hall
        have hkeep : All2 (VOk w Im1 C.Pn σ1 D1) us cvs := All2.imp (fun x y hxy => hxy.imp fun l v' _ hl => ext1.tl l v' hl) hv.2
        obtain ⟨lss, vss, fss, lg2, σ2, Im2, D2, own2, r1, r2, r3, r4, r5⟩ := absorbVs_ok us (n + ls'.length) ext1.rm ext1.rt h1 hkeep
        refine ⟨ls' :: lss, vs :: vss, fs :: fss, lg2, σ2, Im2, D2, own2, r1, e1.trans r2, { ext1.trans r3 with fo := fun x m hx => ?_ }, ⟨htk.ext r3, r4⟩, fun _ => hcells htk.l3.one, r5⟩
        rcases (ext1.trans r3).fo x m hx with hx | ⟨hx, _⟩ | hx
        · exact .inl hx
        · exact .inr hx
        · exact .inr (by omega)
/-- Elements made of leaves that were taken. -/
theorem ofLs_ok {k : Kd} (hpn : ∀ b, Pn b → Im b) : ∀ {lss : List (List Lf)} {xs : List k.T} {vss : List (List Value)} {fss : List (List (List Nat))} {n : Nat}, ofLs k lss = some xs → TakenL w Im Pn own n lss vss fss →
    ∃ (gss : List (List Nat)) (fr : List Nat), RepG k.w (RepK w (fun b => Im b ∨ b ∈ fr) k) xs vss.flatten gss ∧ (∀ b ∈ gss.flatten, ∃ m, n ≤ m ∧ own b = some (.fl m)) ∧ (∀ b ∈ fr, ∃ m, n ≤ m ∧ own b = some (.fl m)) ∧ gss.flatten.Nodup ∧ (∀ b ∈ gss.flatten, b ∉ fr) ∧
      (∀ vs ∈ vss, vs.length = k.w ∧ vs ≠ []) ∧ (∀ vs ∈ vss, ∀ v ∈ vs, v.oneCell' = true) ∧ vss.length = lss.length
  | [], xs, [], [], n, h, _ => by
    simp only [ofLs] at h
    cases h
    exact ⟨[], [], ⟨by simp, rfl, fun i x hx => by simp at hx⟩, by simp, by simp, by simp, by simp, by simp, by simp, rfl⟩
  | l :: ls, xs, v :: vs, f :: fs, n, h, ht => by
    simp only [ofLs] at h
    split at h
    · rename_i x xs' hx hxs
      cases h
      obtain ⟨t1, t2⟩ := ht
      obtain ⟨f1, r1, a1, a2, a3, a4⟩ := ofL_ok hpn k hx t1.l3
      obtain ⟨b5, b6⟩ := a4 t1.nodup.1
      obtain ⟨gss, fr, c1, c2, c3, c4, c5, c6, c7, c8⟩ := ofLs_ok hpn hxs t2
      have hlen := a1.length
      have hlow : ∀ b ∈ f.flatten, ∃ m, n ≤ m ∧ m < n + l.length ∧ own b = some (.fl m) := by
        intro b hb
        obtain ⟨q1, q2, q3⟩ := t1.get
        obtain ⟨g, hg, hbg⟩ := List.mem_flatten.1 hb
        obtain ⟨i, hi⟩ := List.getElem?_of_mem hg
        have hlt : i < l.length := by rw [← q2]; exact (List.getElem?_eq_some_iff.1 hi).1
        obtain ⟨v', f', s1, s2, s3, s4⟩ := q3 i l[i] (List.getElem?_eq_getElem hlt)
        rw [hi] at s2
        cases s2
        exact ⟨n + i, by omega, by omega, s4 b hbg⟩
      have hdis : ∀ b, b ∈ f.flatten → (∃ m, n + l.length ≤ m ∧ own b = some (.fl m)) → False := by
        rintro b hb ⟨m, h1, h2⟩
        obtain ⟨m', _, h3, h4⟩ := hlow b hb
        rw [h4] at h2
        cases h2
        omega
      refine ⟨f1 :: gss, r1 ++ fr, ⟨?_, by simp [c1.2.1], fun i y hy => ?_⟩, fun b hb => ?_, fun b hb => ?_, ?_, fun b hb hr => ?_, ?_, ?_, by simp [c8]⟩
      · rw [List.flatten_cons, List.length_append, hlen, c1.1, List.length_cons, Nat.add_mul, Nat.one_mul, Nat.add_comm]
      · rw [List.flatten_cons]
        cases i with
        | zero =>
          simp at hy
          subst hy
          refine ⟨f1, rfl, ?_⟩
          rw [Nat.zero_mul, List.drop_zero, ← hlen, List.take_left]
          exact RepK.imp (fun _ _ => rfl) (fun b hb => hb.imp (fun h => h) (List.mem_append_left _)) (fun _ _ => rfl) a1
        | succ i =>
          simp at hy
          obtain ⟨g, e1, e2⟩ := c1.2.2 i y hy
          refine ⟨g, by simpa using e1, ?_⟩
          have : (v ++ vs.flatten).drop ((i + 1) * k.w) = vs.flatten.drop (i * k.w) := by
            rw [Nat.add_mul, Nat.one_mul, Nat.add_comm, ← List.drop_drop, ← hlen, List.drop_left]
          rw [this]
          exact RepK.imp (fun _ _ => rfl) (fun b hb => hb.imp (fun h => h) (List.mem_append_right _)) (fun _ _ => rfl) e2
      · rw [List.flatten_cons] at hb
        rcases List.mem_append.1 hb with hb | hb
        · obtain ⟨m, h1, h2, h3⟩ := hlow b (a2 b hb)
          exact ⟨m, h1, h3⟩
        · obtain ⟨m, h1, h2⟩ := c2 b hb
          exact ⟨m, by omega, h2⟩
      · rcases List.mem_append.1 hb with hb | hb
        · obtain ⟨m, h1, h2, h3⟩ := hlow b (a3 b hb)
          exact ⟨m, h1, h3⟩
        · obtain ⟨m, h1, h2⟩ := c3 b hb
          exact ⟨m, by omega, h2⟩
      · rw [List.flatten_cons]
        exact List.nodup_append.2 ⟨b5, c4, fun x hx z hz e => hdis x (a2 x hx) (c2 x (e ▸ hz))⟩
      · rw [List.flatten_cons] at hb
        rcases List.mem_append.1 hb with hb | hb <;> rcases List.mem_append.1 hr with hr | hr
        · exact b6 b hb hr
        · exact hdis b (a2 b hb) (c3 b hr)
        · exact hdis b (a3 b hr) (c2 b hb)
        · exact c5 b hb hr
      · intro vs' hvs'
        rcases List.mem_cons.1 hvs' with rfl | hvs'
        · refine ⟨hlen, fun e => ?_⟩
          rw [e] at hlen
          have := Kd.w_pos k
          simp at hlen
          omega
        · exact c6 vs' hvs'
      · intro vs' hvs'
        rcases List.mem_cons.1 hvs' with rfl | hvs'
        · exact t1.l3.one
        · exact c7 vs' hvs'
    · cases h
  | [], _, [], _ :: _, _, _, h => h.elim
  | [], _, _ :: _, _, _, _, h => h.elim
  | _ :: _, _, [], _, _, _, h => h.elim
  | _ :: _, _, _ :: _, [], _, _, h => h.elim
/-- Parts in their order fill a row. -/
theorem fill_seq {s : Nat} : ∀ (vs : List Value) (css : List (List Value)) (j : Nat) (arr : Array Value), All2 (fun v cs => v.cells.toList = cs ∧ cs.length = s) vs css → arr.size = (j + vs.length) * s →
    ∃ arr', Instr.fill (fun i => some (i * s, s)) arr ((List.range' j vs.length).zip vs) = some arr' ∧ arr'.toList = arr.toList.take (j * s) ++ css.flatten
  | [], [], j, arr, _, h => by
    refine ⟨arr, by simp [Instr.fill], ?_⟩
    simp only [List.length_nil, Nat.add_zero] at h
    simp only [List.flatten_nil, List.append_nil]
    rw [List.take_of_length_le]
    simp [h]
  | v :: vs, cs :: css, j, arr, ha, h => by
    obtain ⟨⟨h1, h2⟩, h3⟩ := ha
    simp only [List.length_cons] at h
    have e1 : (j + (vs.length + 1)) * s = j * s + (vs.length * s + s) := by rw [Nat.add_mul, Nat.add_mul, Nat.one_mul]
    have hfit : j * s + cs.length ≤ arr.size := by rw [h, e1, h2]; omega
    have hfold := fold_cells h1 (j * s) arr hfit
    have hsz : v.cells.size = s := by rw [← h2, ← h1]; simp
    have hsize : (v.cells.zipIdx.foldl (fun (cs : Array Value) (p : Value × Nat) => cs.setIfInBounds (j * s + p.2) p.1) arr).size = arr.size := by
      have : (v.cells.zipIdx.foldl (fun (cs : Array Value) (p : Value × Nat) => cs.setIfInBounds (j * s + p.2) p.1) arr).toList.length = arr.toList.length := by rw [hfold, setRange_length (by simpa using hfit)]
      simpa using this
    obtain ⟨arr', a1, a2⟩ := fill_seq vs css (j + 1) _ h3 (by rw [hsize, h]; congr 1; omega)
    refine ⟨arr', ?_, ?_⟩
    · simp only [List.length_cons, List.range'_succ, List.zip_cons_cons, Instr.fill]
      have hc : (decide (v.cells.size ≠ s) || decide (j * s + v.cells.size > arr.size)) = false := by
        simp only [Bool.or_eq_false_iff, decide_eq_false_iff_not]
        exact ⟨fun h => h hsz, by omega⟩
      rw [if_neg (by rw [hc]; simp)]
      exact a1
    · rw [a2, hfold, List.flatten_cons, ← List.append_assoc]
      congr 1
      apply List.ext_getElem?
      intro i
      have e2 : (j + 1) * s = j * s + s := by rw [Nat.add_mul, Nat.one_mul]
      rw [List.getElem?_take, setRange_get (by simpa using hfit)]
      by_cases hi : i < j * s
      · rw [if_pos (by omega), if_neg (by omega), List.getElem?_append_left (by simp; omega), List.getElem?_take, if_pos hi]
      · rw [List.getElem?_append_right (by simp; omega)]
        have hl : (arr.toList.take (j * s)).length = j * s := by simp; omega
        rw [hl]
        by_cases hi2 : i < (j + 1) * s
        · rw [if_pos hi2, if_pos (by omega)]
        · rw [if_neg hi2]
          symm
          apply List.getElem?_eq_none
          omega
  | [], _ :: _, _, _, h, _ => h.elim
  | _ :: _, [], _, _, h, _ => h.elim
theorem inOrder_zip : ∀ (ps : List (Nat × Operand)) (j : Nat) (f : Operand → Value), inOrder j ps = true → (ps.map fun p => (p.1, f p.2)) = (List.range' j ps.length).zip ((ps.map (·.2)).map f)
  | [], j, f, _ => rfl
  | (i, x) :: r, j, f, h => by
    simp only [inOrder, Bool.and_eq_true, beq_iff_eq] at h
    obtain ⟨rfl, h2⟩ := h
    simp only [List.map_cons, List.length_cons, List.range'_succ, List.zip_cons_cons]
    rw [inOrder_zip r (i + 1) f h2]
theorem nodup_single_append {b : Nat} {l : List Nat} (h : b ∉ l) (hl : l.Nodup) : ([b] ++ l).Nodup := List.nodup_cons.2 ⟨h, hl⟩
theorem ok_buildSlice {o : Oper} {t : TypeId} {n : Nat} {ps : Array (Nat × Operand)} (ho : o.op = .buildSlice t n ps) {cx : Cx} (hP : cx.P = P) (hd : dOk C nt o.dst) (hf : ∀ d, o.dst = some d → σ.fresh d) (hm : RM C σ w Im D own) (ht : RT C nt σ w Im D a) (h : Run orc (opM cx o) σ lg) : OpOk P C nt o a w (apps lg σ) := by
  subst hP
  unfold opM at h
  rw [ho] at h
  dsimp only at h
  unfold buildSliceM at h
  split at h
  · rename_i d e hdst hu
    split at h
    · rename_i k hk hc
      simp only [Bool.and_eq_true, beq_iff_eq, decide_eq_true_eq] at hc
      obtain ⟨⟨⟨hord, hn⟩, hwd⟩, h24⟩ := hc
      split at h
      · cases h
      · rename_i hkw
        have hkw : cx.P.cellsOf e = k.w := by simpa using hkw
        obtain ⟨us, lg1, h1, e1, k1⟩ := partsM_run ht _ h
        obtain ⟨lss, vss, fss, lg2, σ2, Im2, D2, own2, h2, e2, ext, htk, hcells⟩ := absorbVs_ok us 0 hm ht h1 k1
        rw [e1, e2]
        generalize hx : ofLs k lss = q at h2
        cases h2 with
        | opt h2 =>
          rename_i xs
          cases h2 with
          | wr h2 => cases h2 with
            | wr h2 => cases h2 with
              | ret =>
                obtain ⟨gss, fr, c1, c2, c3, c4, c5, c6, c7, c8⟩ := ofLs_ok ext.rm.pnim hx htk
                -- freeze what lies frozen in the elements; name all others alike
                have hm2 : RM C σ2 w (fun b => Im2 b ∨ b ∈ fr) D2 (fun x => if x ∈ fr then none else if x ∈ gss.flatten then some (.fl 0) else own2 x) := by
                  refine ext.rm.reown (fun x t hx ht => ?_) (fun x t hx => ?_) (fun _ => .inl) (fun b hb => hb.imp (fun h => h) fun hb => ?_)
                  · have n1 : x ∉ fr := fun h' => by obtain ⟨m, _, hm'⟩ := c3 x h'; rw [hx] at hm'; cases hm'; exact ht m rfl
                    have n2 : x ∉ gss.flatten := fun h' => by obtain ⟨m, _, hm'⟩ := c2 x h'; rw [hx] at hm'; cases hm'; exact ht m rfl
                    simp only [n1, n2, if_false]
                    exact hx
                  · split at hx
                    · cases hx
                    · rename_i n1
                      split at hx
                      · rename_i n2
                        obtain ⟨m, _, hm'⟩ := c2 x n2
                        exact ⟨fun hi => hi.elim (ext.rm.ow x _ hm').1 n1, _, hm'⟩
                      · exact ⟨fun hi => hi.elim (ext.rm.ow x _ hx).1 n1, _, hx⟩
                  · obtain ⟨m, _, hm'⟩ := c3 b hb
                    exact ⟨m, hm'⟩
                have ht2 : RT C nt σ2 w (fun b => Im2 b ∨ b ∈ fr) D2 a := RT.reim ext.rm ext.rt fun _ => .inl
                -- the run
                have hcw : cx.P.cellsOf e ≠ 0 := by have := Kd.w_pos k; omega
                obtain ⟨iv, zv, hiv, hzv, hzs⟩ : ∃ i z, cx.P.info? e = some i ∧ i.zero = some z ∧ z.cells.size = i.size := by
                  unfold widthOk' at hwd
                  split at hwd
                  · rename_i i hi
                    split at hwd
                    · rename_i z hz
                      simp only [Bool.and_eq_true, beq_iff_eq, decide_eq_true_eq] at hwd
                      exact ⟨i, z, hi, hz, hwd.2⟩
                    · cases hwd
                  · cases hwd
                have hvl : All2 (fun (v : Value) cs => v.cells.toList = cs ∧ cs.length = cx.P.cellsOf e) ((ps.toList.map (·.2)).map a.eval) vss := by
                  refine All2.of_get hcells.length fun i v hv => ?_
                  obtain ⟨vs, hvs, hvc⟩ := hcells.get hv
                  obtain ⟨l1, l2⟩ := c6 vs (List.mem_of_getElem? hvs)
                  exact ⟨vs, hvs, hvc l2, by rw [hkw]; exact l1⟩
                have hlen : ((ps.toList.map (·.2)).map a.eval).length = n := by simp; rw [← hn]; simp
                obtain ⟨arr', a1, a2⟩ := fill_seq (s := cx.P.cellsOf e) _ vss 0 ((Array.range (n * cx.P.cellsOf e)).map ((if n * cx.P.cellsOf e = 0 then #[] else zv.cells)[· % (if n * cx.P.cellsOf e = 0 then #[] else zv.cells).size]!)) hvl (by rw [Array.size_map, Array.size_range, hlen, Nat.zero_add])
                rw [hlen] at a1
                simp only [Nat.zero_mul, List.take_zero, List.nil_append] at a2
                have hparts : (ps.map fun (p : Nat × Operand) => (p.1, a.eval p.2)).toList = (List.range' 0 n).zip ((ps.toList.map (·.2)).map a.eval) := by
                  rw [Array.toList_map, inOrder_zip _ 0 a.eval hord, hn]
                have hrun : (Instr.buildSlice t n (ps.map fun (p : Nat × Operand) => (p.1, a.eval p.2))).run cx.P w = .ok (.slice (some ⟨w.heap.size, 0, none⟩) n n) (w.alloc (.cells arr' e)) := by
                  have h2p : (2 : Nat) ^ 24 = 16777216 := by decide
                  have h24' : ¬ (n * cx.P.cellsOf e > 2 ^ 24) := by rw [h2p]; omega
                  by_cases hn0 : n * cx.P.cellsOf e = 0
                  · rw [if_pos hn0] at a1
                    simp only [Instr.buildSlice, Sem.run_bind, run_underlying hu, Result.andThen_ok, run_sizeOf' hcw, if_neg h24', Sem.run_pure, if_pos hn0, hparts, a1, newRow, run_newObj]
                    rfl
                  · rw [if_neg hn0] at a1
                    simp only [Instr.buildSlice, Sem.run_bind, run_underlying hu, Result.andThen_ok, run_sizeOf' hcw, if_neg h24', Sem.run_pure, if_neg hn0, zeroValue, typeInfo, run_program, hiv, hzv, hparts, a1, newRow, run_newObj]
                    rfl
                have hg := Grows.alloc w (.cells arr' e)
                have hnew := heap_alloc_new w (.cells arr' e)
                have hm3 := (hm2.grow hg).tag (.fl 0) hm2.own_new (fun hi => absurd (hm2.imlt _ hi) (Nat.lt_irrefl _)) hm2.size hnew
                refine .value (w' := w.alloc (.cells arr' e)) (by simp only [execOp, ho]; exact exec_v hrun) ?_
                rw [hdst]
                have hxl : xs.length = n := by
                  have h1 := c1.1
                  have : vss.flatten.length = n * k.w := by
                    rw [← a2]
                    have hvn : vss.length = n := by rw [← hvl.length, hlen]
                    rw [a2]
                    have : ∀ (l : List (List Value)), (∀ v ∈ l, v.length = k.w ∧ v ≠ []) → l.flatten.length = l.length * k.w := by
                      intro l
                      induction l with
                      | nil => intro _; simp
                      | cons v r ih =>
                        intro hl
                        rw [List.flatten_cons, List.length_append, (hl v (by simp)).1, ih fun v' hv' => hl v' (by simp [hv']), List.length_cons, Nat.add_mul, Nat.one_mul, Nat.add_comm]
                    rw [this vss c6, hvn]
                  rw [this] at h1
                  exact (Nat.mul_right_cancel (Kd.w_pos k) h1).symm
                have hnin : w.heap.size ∉ gss.flatten := fun hb => by
                  obtain ⟨m, _, hm'⟩ := c2 _ hb
                  exact absurd (ext.rm.olt hm') (Nat.lt_irrefl _)
                refine R.newList hm3 (RT.grow hm2 ht2 hg) (hd d hdst) (fresh_of_even ext.ev (hf d hdst)) (n := 0) (f := [w.heap.size] ++ gss.flatten) (xs := xs) ⟨vss.flatten, gss, ⟨by rw [c1.1], .inr ⟨w.heap.size, n, arr', by rw [hxl], Nat.zero_le _, hnew, by rw [hxl]; exact Nat.le_refl _, ?_, ?_, ?_⟩⟩, ⟨c1.1, c1.2.1, fun i x hx => ?_⟩, rfl, nodup_single_append hnin c4⟩ (fun b hb => ?_)
                · have : n ≤ n * cx.P.cellsOf e := Nat.le_mul_of_pos_right _ (by omega)
                  simp only [maxLen]
                  omega
                · have := congrArg List.length a2
                  simp only [Array.length_toList] at this
                  rw [this, c1.1, hxl]
                · rw [a2]
                  apply List.take_of_length_le
                  rw [c1.1]
                  exact Nat.le_refl _
                · obtain ⟨g, g1, g2⟩ := c1.2.2 i x hx
                  refine ⟨g, g1, g2.imp (fun b hb => hg.block b (hm2.imlt b hb)) (fun _ h => h) (fun b hb => hg.block b ?_)⟩
                  obtain ⟨m, _, hm'⟩ := c2 b (List.mem_flatten.2 ⟨g, List.mem_of_getElem? g1, hb⟩)
                  exact ext.rm.olt hm'
                · rcases List.mem_append.1 hb with hb | hb
                  · simp at hb; subst hb; simp
                  · have n1 : b ∉ fr := c5 b hb
                    split
                    · rfl
                    · simp [n1, hb]
    · cases h
  · cases h
end Go.Vi
/- append. -/
namespace Go.Vi
set_option linter.unusedVariables false
set_option linter.unusedSimpArgs false
variable {P : Program} {orc : Orc} {C : Ct} {nt : Nat} {σ σ' : St} {w w' : World} {Im Im' Pn : Nat → Prop} {D D' : Nat → SD} {own own' : Nat → Option Tag} {a : Act} {lg : List Ac}

/-- What 'append' copies from. -/
def Src (w : World) (m : Nat) (news : List Value) (sv : Value) : Prop :=
  (m = 0 ∧ news = [] ∧ ∃ c, sv = .slice none 0 c) ∨ ∃ A c, sv = .slice (some A) m c ∧ ∀ (j : Nat) u, news[j]? = some u → w.cell? (A.add j) = some u
theorem run_append_none {t e : TypeId} {ty : TypeId} (ht : P.underlying t = some (.slice e)) {i : TypeInfo} (hi : P.info? e = some i) {q : Option Addr} {n cap c : Nat} (h : n ≤ cap) :
    (Builtin.append_ #[t, t] ty #[.slice q n cap, .slice none 0 c]).run P w = .ok (.slice q n cap) w := by
  cases q <;> simp [Builtin.append_, run_underlying ht, sizeOf, typeInfo, hi, Builtin.lenOf, Builtin.firstCells, h, storeCells]
theorem append_run {t e : TypeId} {ty : TypeId} (ht : P.underlying t = some (.slice e)) {i : TypeInfo} {z : Value} (hi : P.info? e = some i) (hz : i.zero = some z) {s : Nat} (hs : i.size = s) (hzs : z.cells.size = s) (hsp : 0 < s) (hby : i.bytes ≤ 65536)
    {v : Value} {n : Nat} {cs : List Value} (hv : w.ownsRow 0 e s v n cs) {m : Nat} {news : List Value} {sv : Value} (hl : news.length = m * s) (hsrc : Src w m news sv) (h1 : ∀ u ∈ news, u.oneCell' = true) (hb : n + m ≤ 1000000000) :
    ∃ v' w', (Builtin.append_ #[t, t] ty #[v, sv]).run P w = .ok v' w' ∧ w'.ownsRow 0 e s v' (n + m) (cs ++ news) ∧
      ((v'.ownBlock = v.ownBlock ∧ w'.os = w.os ∧ w'.tape = w.tape ∧ w'.output = w.output ∧ w'.heap.size = w.heap.size ∧ (∀ b, some b ≠ v.ownBlock → w'.heap[b]? = w.heap[b]?)) ∨ (v'.ownBlock = some w.heap.size ∧ Grows w w')) := by
  subst hs
  have hml : maxLen = 9223372036854775807 := by decide
  have hlen : (cs ++ news).length = (n + m) * i.size := by rw [List.length_append, hv.1, hl, Nat.add_mul]
  have same : ∀ {q n' cap}, v = .slice q n' cap → m = 0 → news = [] → n' ≤ cap → n' = n → (∃ c, sv = .slice none 0 c) ∨ (∃ A c, sv = .slice (some A) 0 c) → (Builtin.append_ #[t, t] ty #[v, sv]).run P w = .ok v w := by
    intro q n' cap hq hm hn hc hnn hsv
    subst hq
    rcases hsv with ⟨c, rfl⟩ | ⟨A, c, rfl⟩
    · exact run_append_none ht hi hc
    · cases q <;> simp [Builtin.append_, run_underlying ht, sizeOf, typeInfo, hi, Builtin.lenOf, Builtin.firstCells, hc, storeCells, loadCells, loadCellsFrom]
  have keep : ∀ {q n' cap}, v = .slice q n' cap → m = 0 → news = [] → n' ≤ cap → n' = n → (∃ c, sv = .slice none 0 c) ∨ (∃ A c, sv = .slice (some A) 0 c) → ∃ v' w', (Builtin.append_ #[t, t] ty #[v, sv]).run P w = .ok v' w' ∧ w'.ownsRow 0 e i.size v' (n + m) (cs ++ news) ∧
      ((v'.ownBlock = v.ownBlock ∧ w'.os = w.os ∧ w'.tape = w.tape ∧ w'.output = w.output ∧ w'.heap.size = w.heap.size ∧ (∀ b, some b ≠ v.ownBlock → w'.heap[b]? = w.heap[b]?)) ∨ (v'.ownBlock = some w.heap.size ∧ Grows w w')) := by
    intro q n' cap hq hm hn hc hnn hsv
    refine ⟨v, w, same hq hm hn hc hnn hsv, ?_, .inl ⟨rfl, rfl, rfl, rfl, rfl, fun _ _ => rfl⟩⟩
    rw [hm, hn]
    simpa using hv
  have hm0 : news = [] ↔ m = 0 := by
    constructor
    · intro h
      rcases Nat.mul_eq_zero.1 (show m * i.size = 0 by rw [← hl, h]; rfl) with hl | hl
      · exact hl
      · omega
    · intro h; rw [h] at hl; exact List.eq_nil_of_length_eq_zero (by simpa using hl)
  have hbytes : (n + m) * i.bytes ≤ 140737488355328 := by
    have := Nat.mul_le_mul hb hby
    omega
  rcases hv.2 with ⟨rfl, rfl⟩ | ⟨g, cap, cur, rfl, hg0, hgh, hnc, hcm, hcs, htk⟩
  · have hcs0 : cs = [] := List.eq_nil_of_length_eq_zero (by simpa using hv.1)
    by_cases hm : m = 0
    · rcases hsrc with ⟨_, h2, h3⟩ | ⟨A, c, rfl, _⟩
      · exact keep rfl hm h2 (Nat.le_refl _) rfl (.inl h3)
      · exact keep rfl hm (hm0.2 hm) (Nat.le_refl _) rfl (.inr ⟨A, c, by rw [hm]⟩)
    · rcases hsrc with ⟨h2, _⟩ | ⟨A, c, rfl, hcell⟩
      · exact absurd h2 hm
      · have hr := run_append_nil (P := P) w t ty e i z ht hi hz A m c news hl hcell (by omega) (by omega) (by rw [Nat.zero_add] at hbytes; omega)
        refine ⟨_, _, hr, ⟨hlen, .inr ⟨w.heap.size, grownCap w m 0 e, _, by rw [Nat.zero_add], Nat.zero_le _, heap_alloc_new w.drew _, ?_, grownCap_le_maxLen w m 0 e (by rw [hml]; omega), ?_, ?_⟩⟩, .inr ⟨rfl, (Grows.drew w).trans (Grows.alloc w.drew _)⟩⟩
        · rw [Nat.zero_add]; exact grownCap_ge w m 0 e
        · have := grownCap_ge w m 0 e
          simp only [Array.size_append, List.size_toArray, size_zeroCells, hzs, hl, ← Nat.add_mul]
          congr 1
          omega
        · rw [hcs0, Nat.zero_add, List.nil_append]
          simp only [Array.toList_append]
          rw [← hl]
          exact List.take_left
  · by_cases hroom : n + m ≤ cap
    · by_cases hm : m = 0
      · rcases hsrc with ⟨_, h2, h3⟩ | ⟨A, c, rfl, _⟩
        · exact keep rfl hm h2 hnc rfl (.inl h3)
        · exact keep rfl hm (hm0.2 hm) hnc rfl (.inr ⟨A, c, by rw [hm]⟩)
      · rcases hsrc with ⟨h2, _⟩ | ⟨A, c, rfl, hcell⟩
        · exact absurd h2 hm
        · have hsz : n * i.size + news.length ≤ cur.size := by
            rw [hcs, hl, ← Nat.add_mul]
            exact Nat.mul_le_mul_right _ hroom
          have hr := run_append_room (P := P) w t ty e i ht hi g n cap cur hgh A m c news hl hcell h1 hroom hsz
          have hself := setRow_heap w g cur (cur.toList.take (n * i.size) ++ news ++ cur.toList.drop (n * i.size + news.length)).toArray e (0, 0) hgh
          refine ⟨_, _, hr, ⟨hlen, .inr ⟨g, cap, _, rfl, Nat.zero_le _, hself, hroom, hcm, ?_, ?_⟩⟩, .inl ⟨rfl, rfl, rfl, rfl, by simp, fun b hb => setRow_other w g b _ fun e' => hb (by rw [e']; rfl)⟩⟩
          · simp only [List.size_toArray, List.length_append, List.length_take, List.length_drop, Array.length_toList]
            rw [← hcs]
            omega
          · simp only [htk]
            rw [← hlen]
            exact List.take_left
    · rcases hsrc with ⟨h2, _⟩ | ⟨A, c, rfl, hcell⟩
      · omega
      · have hcl : cs.length = n * i.size := hv.1
        have hold : ∀ (j : Nat) u, cs[j]? = some u → w.cell? ((⟨g, 0, none⟩ : Addr).add j) = some u := by
          intro j u hu
          rw [Addr.add_lit, cell_at hgh, Nat.zero_add]
          rw [← htk, List.getElem?_take] at hu
          split at hu
          · exact hu
          · cases hu
        have hr := run_append_grow (P := P) w t ty e i z ht hi hz ⟨g, 0, none⟩ n cap cs hcl hold A m c news hl hcell (by omega) (by omega) (growslice_fits (by omega) hbytes)
        refine ⟨_, _, hr, ⟨hlen, .inr ⟨w.heap.size, grownCap w (n + m) cap e, _, rfl, Nat.zero_le _, heap_alloc_new w.drew _, grownCap_ge w (n + m) cap e, grownCap_le_maxLen w (n + m) cap e (by rw [hml]; omega), ?_, ?_⟩⟩, .inr ⟨rfl, (Grows.drew w).trans (Grows.alloc w.drew _)⟩⟩
        · have := grownCap_ge w (n + m) cap e
          simp only [Array.size_append, List.size_toArray, size_zeroCells, hzs, hcl, hl, ← Nat.add_mul]
          congr 1
          omega
        · simp only [Array.toList_append]
          rw [← hlen]
          exact List.take_left
/-- A float's block is written. -/
theorem RM.floatRow (hm : RM C σ w Im D own) {g m : Nat} (hg : own g = some (.fl m)) (hos : w'.os = w.os) (htp : w'.tape = w.tape) (hout : w'.output = w.output) (hsz : w'.heap.size = w.heap.size) (hother : ∀ b, b ≠ g → w'.heap[b]? = w.heap[b]?)
    (hself : ∃ arr e, w'.heap[g]? = some (.cells arr e (0, 0))) : RM C σ w' Im D own := by
  have hgim : ¬ Im g := (hm.ow g _ hg).1
  have hImne : ∀ b, Im b → b ≠ g := fun b hb e => hgim (e ▸ hb)
  refine { hm with os := hos.trans hm.os, tape := htp.trans hm.tape, output := hout.trans hm.output, size := by rw [hsz]; exact hm.size, frame := fun b hb hs => ?_, imlt := fun b hb => by rw [hsz]; exact hm.imlt b hb, ow := fun b t hb => ?_, slot := fun id virt ls hgs => ?_ }
  · rw [hother b (fun e' => by
      subst e'
      rcases (hm.ow b _ hg).2.1 with h' | h'
      · exact hs h'
      · omega)]
    exact hm.frame b hb hs
  · obtain ⟨m1, m2, arr, e', m3⟩ := hm.ow b t hb
    refine ⟨m1, m2, ?_⟩
    by_cases hbb : b = g
    · subst hbb; exact hself
    · exact ⟨arr, e', by rw [hother b hbb]; exact m3⟩
  · obtain ⟨s1, s2, s3⟩ := hm.slot id virt ls hgs
    refine ⟨⟨fun hv => ?_, s1.vlen, s1.flen, fun i l hl => ?_⟩, s2, s3⟩
    · obtain ⟨e', he'⟩ := s1.box hv
      exact ⟨e', by rw [hother _ (fun h' => by have := s2 hv; rw [h', hg] at this; cases this)]; exact he'⟩
    · obtain ⟨v, f, a1, a2, a3⟩ := s1.leaf i l hl
      exact ⟨v, f, a1, a2, a3.imp (fun b hb => hother b (hImne b hb)) (fun _ h => h) (fun b hb => hother b (hImne b (hm.pnim b hb))) (fun b hb => hother b fun e' => by
        subst e'
        have := s3 i f b a2 hb
        rw [hg] at this
        cases this)⟩
theorem RT.floatRow (hm : RM C σ w Im D own) (ht : RT C nt σ w Im D a) {g m : Nat} (hg : own g = some (.fl m)) (hother : ∀ b, b ≠ g → w'.heap[b]? = w.heap[b]?) : RT C nt σ w' Im D a := by
  have hgim : ¬ Im g := (hm.ow g _ hg).1
  exact ht.imp (fun b hb => hother b fun e => hgim (e ▸ hb)) (fun _ h => h) hm.pnim (fun _ _ h => h) fun t u id virt ls _ _ hs => ⟨ls, hs, fun _ => rfl, fun off m e k xs _ hl hp => ⟨m, e, xs, hl, hp, Nat.le_refl _, rfl⟩⟩
theorem RepG.append {α : Type} {wd : Nat} {ρ : α → List Value → List Nat → Prop} {xs ys : List α} {cs ds : List Value} {fss gss : List (List Nat)} (h : RepG wd ρ xs cs fss) (g : RepG wd ρ ys ds gss) : RepG wd ρ (xs ++ ys) (cs ++ ds) (fss ++ gss) := by
  obtain ⟨h1, h2, h3⟩ := h
  obtain ⟨g1, g2, g3⟩ := g
  refine ⟨by simp [h1, g1, Nat.add_mul], by simp [h2, g2], fun i x hx => ?_⟩
  rw [List.getElem?_append] at hx
  split at hx
  · rename_i hi
    obtain ⟨f, a1, a2⟩ := h3 i x hx
    refine ⟨f, by rw [List.getElem?_append_left (by rw [h2]; exact hi)]; exact a1, ?_⟩
    have := mul_le_of (k := wd) (show i + 1 ≤ xs.length from hi)
    rw [Nat.add_mul, Nat.one_mul] at this
    rw [List.drop_append_of_le_length (by omega), List.take_append_of_le_length (by simp; omega)]
    exact a2
  · rename_i hi
    obtain ⟨f, a1, a2⟩ := g3 (i - xs.length) x hx
    refine ⟨f, by rw [List.getElem?_append_right (by omega), h2]; exact a1, ?_⟩
    have e1 : i * wd = cs.length + (i - xs.length) * wd := by rw [h1, ← Nat.add_mul]; congr 1; omega
    rw [e1, ← List.drop_drop, List.drop_left]
    exact a2
/-- What a list that is only looked at gives to copy. -/
theorem Frz.src {k : Kd} {xs : List k.T} {v : Value} (h : Frz w Im k xs v) (hk : k.noOw = true) : ∃ news fss, RepG k.w (RepK w Im k) xs news fss ∧ Src w xs.length news v ∧ (∀ u ∈ news, u.oneCell' = true) ∧ fss.flatten = [] := by
  have hf0 : ∀ {fss : List (List Nat)} {news : List Value}, RepG k.w (RepK w Im k) xs news fss → fss.flatten = [] ∧ ∀ u ∈ news, u.oneCell' = true := by
    intro fss news hr
    constructor
    · refine List.flatten_eq_nil_iff.2 fun f hf => ?_
      obtain ⟨i, hi⟩ := List.getElem?_of_mem hf
      have hlt : i < xs.length := by rw [← hr.2.1]; exact (List.getElem?_eq_some_iff.1 hi).1
      obtain ⟨f', a1, a2⟩ := hr.2.2 i xs[i] (List.getElem?_eq_getElem hlt)
      rw [hi] at a1
      cases a1
      exact (toL_noOw (σ := []) (D := fun _ => ⟨0, [], []⟩) (Pn := Im) hk a2).1
    · intro u hu
      obtain ⟨j, hj⟩ := List.getElem?_of_mem hu
      have hjl : j < xs.length * k.w := by rw [← hr.1]; exact (List.getElem?_eq_some_iff.1 hj).1
      have hw := Kd.w_pos k
      have hi : j / k.w < xs.length := Nat.div_lt_of_lt_mul (by rw [Nat.mul_comm]; exact hjl)
      obtain ⟨f', a1, a2⟩ := hr.2.2 (j / k.w) xs[j / k.w] (List.getElem?_eq_getElem hi)
      refine a2.one u ?_
      have : ((news.drop (j / k.w * k.w)).take k.w)[j % k.w]? = some u := by
        rw [List.getElem?_take, if_pos (Nat.mod_lt _ hw), List.getElem?_drop, Nat.mul_comm, Nat.div_add_mod]
        exact hj
      exact List.mem_of_getElem? this
  rcases h with ⟨rfl, q, c, rfl⟩ | ⟨b, o, cap, arr, e, fr, fss, rfl, hc, hb, hib, hr, hff⟩
  · refine ⟨[], [], ⟨by simp, rfl, fun i x hx => by simp at hx⟩, ?_, by simp, rfl⟩
    cases q with
    | none => exact .inl ⟨rfl, rfl, c, rfl⟩
    | some A => exact .inr ⟨A, c, rfl, by simp⟩
  · obtain ⟨h1, h2⟩ := hf0 hr
    refine ⟨_, fss, hr, .inr ⟨_, cap, rfl, fun j u hu => ?_⟩, h2, h1⟩
    rw [Addr.add_lit, cell_at hb]
    rw [List.getElem?_take] at hu
    split at hu
    · rwa [List.getElem?_drop] at hu
    · cases hu
theorem rep_one {k : Kd} {xs : List k.T} {news : List Value} {fss : List (List Nat)} (hr : RepG k.w (RepK w Im k) xs news fss) : ∀ u ∈ news, u.oneCell' = true := by
  intro u hu
  obtain ⟨j, hj⟩ := List.getElem?_of_mem hu
  have hjl : j < xs.length * k.w := by rw [← hr.1]; exact (List.getElem?_eq_some_iff.1 hj).1
  have hw := Kd.w_pos k
  have hi : j / k.w < xs.length := Nat.div_lt_of_lt_mul (by rw [Nat.mul_comm]; exact hjl)
  obtain ⟨f', a1, a2⟩ := hr.2.2 (j / k.w) xs[j / k.w] (List.getElem?_eq_getElem hi)
  refine a2.one u ?_
  have : ((news.drop (j / k.w * k.w)).take k.w)[j % k.w]? = some u := by
    rw [List.getElem?_take, if_pos (Nat.mod_lt _ hw), List.getElem?_drop, Nat.mul_comm, Nat.div_add_mod]
    exact hj
  exact List.mem_of_getElem? this
theorem Own.src {e : TypeId} {k : Kd} {xs : List k.T} {v : Value} {f : List Nat} (h : Own w Im e k xs v f) : ∃ news fss, RepG k.w (RepK w Im k) xs news fss ∧ Src w xs.length news v ∧ (∀ u ∈ news, u.oneCell' = true) ∧ (∀ b ∈ fss.flatten, b ∈ f) ∧ fss.flatten.Nodup := by
  obtain ⟨cs, fss, ho, hr, rfl, hn⟩ := h
  refine ⟨cs, fss, hr, ?_, rep_one hr, fun b hb => List.mem_append_right _ hb, (List.nodup_append.1 hn).2.1⟩
  rcases ho.2 with ⟨rfl, h0⟩ | ⟨g, cap, cur, rfl, _, hg, hc, hm, hs, htk⟩
  · exact .inl ⟨h0, List.eq_nil_of_length_eq_zero (by rw [ho.1, h0, Nat.zero_mul]), 0, rfl⟩
  · refine .inr ⟨_, cap, rfl, fun j u hu => ?_⟩
    rw [Addr.add_lit, cell_at hg, Nat.zero_add]
    rw [← htk, List.getElem?_take] at hu
    split at hu
    · exact hu
    · cases hu
/-- The source of an append. -/
theorem srcM_ok (hm : RM C σ w Im D own) (ht : RT C nt σ w Im D a) {u : V} {f : (e : TypeId) → (k : Kd) → List k.T → M} (h : Run orc (srcM u f) σ lg) {sv : Value} (hv : VOk w Im C.Pn σ D u sv) :
    ∃ e k ys lg' σ' D' own' news fss, Run orc (f e k ys) σ' lg' ∧ apps lg σ = apps lg' σ' ∧ Ext C nt a w σ Im D own σ' Im D' own' (· = 1) ∧ RepG k.w (RepK w Im k) ys news fss ∧ Src w ys.length news sv ∧ (∀ u ∈ news, u.oneCell' = true) ∧ (∀ b ∈ fss.flatten, own' b = some (.fl 1)) ∧ fss.flatten.Nodup := by
  have hrefl : Ext C nt a w σ Im D own σ Im D own (· = 1) := { Ext.refl hm ht with fo := fun _ _ h => .inl h }
  have frz : ∀ {e : TypeId} {k : Kd} {ys : List k.T} {lg'}, Run orc (f e k ys) σ lg' → apps lg σ = apps lg' σ → k.noOw = true → Frz w Im k ys sv → ∃ e k ys lg' σ' D' own' news fss, Run orc (f e k ys) σ' lg' ∧ apps lg σ = apps lg' σ' ∧ Ext C nt a w σ Im D own σ' Im D' own' (· = 1) ∧ RepG k.w (RepK w Im k) ys news fss ∧ Src w ys.length news sv ∧ (∀ u ∈ news, u.oneCell' = true) ∧ (∀ b ∈ fss.flatten, own' b = some (.fl 1)) ∧ fss.flatten.Nodup := by
    intro e k ys lg' hr ha hk hf
    obtain ⟨news, fss, r1, r2, r3, r4⟩ := hf.src hk
    exact ⟨e, k, ys, lg', σ, D, own, news, fss, hr, ha, hrefl, r1, r2, r3, by rw [r4]; simp, by rw [r4]; exact List.nodup_nil⟩
  unfold srcM at h
  split at h
  · rename_i e k
    have hv : sv = .slice none 0 0 := hv
    exact ⟨e, k, [], lg, σ, D, own, [], [], h, rfl, hrefl, ⟨by simp, rfl, fun i x hx => by simp at hx⟩, .inl ⟨rfl, rfl, 0, hv⟩, by simp, by simp, by simp⟩
  · rename_i m e k xs
    split at h
    · cases h
    · rename_i hne
      split at h
      · rename_i hk
        cases m with
        | own => exact absurd rfl hne
        | frz => exact frz h rfl hk hv
        | pin => exact frz h rfl hk (Frz.imp (fun _ _ => rfl) hm.pnim hv)
      · cases h
  · rename_i id off
    obtain ⟨virt, ls, m, e, k, xs, lg', hg, hl, hp, hr, ha⟩ := listM_run h
    obtain ⟨f0, q1, q2, q3, _⟩ := view_header hm hg hl hp hv
    split at hr
    · rename_i hk
      cases m with
      | own =>
        obtain ⟨news, fss, r1, r2, r3, r4, r5⟩ := Own.src q2
        have hf0 : fss.flatten = [] := by
          refine List.flatten_eq_nil_iff.2 fun f hf => ?_
          obtain ⟨i, hi⟩ := List.getElem?_of_mem hf
          have hlt : i < xs.length := by rw [← r1.2.1]; exact (List.getElem?_eq_some_iff.1 hi).1
          obtain ⟨f', a1, a2⟩ := r1.2.2 i xs[i] (List.getElem?_eq_getElem hlt)
          rw [hi] at a1
          cases a1
          exact (toL_noOw (σ := []) (D := fun _ => ⟨0, [], []⟩) (Pn := Im) hk a2).1
        exact ⟨e, k, xs, lg', σ, D, own, news, fss, hr, ha, hrefl, r1, r2, r3, by rw [hf0]; simp, r5⟩
      | frz => exact frz hr ha hk q2.2
      | pin => exact absurd rfl hp
    · split at hr
      · cases hr with
        | wr hr =>
          obtain ⟨v', f1, D', own', t1, ext, t3, t4⟩ := take_own hm ht hg hl 1
          have hvv : v' = sv := by rw [q1] at t1; cases t1; rfl
          subst hvv
          obtain ⟨news, fss, r1, r2, r3, r4, r5⟩ := Own.src t3
          exact ⟨e, k, xs, _, _, D', own', news, fss, hr, ha, ext, r1, r2, r3, fun b hb => t4 b (r4 b hb), r5⟩
      · cases hr
  · cases h
theorem ok_append {o : Oper} {c : Call} {x y : Operand} {t : TypeId} (ho : o.op = .call c) (hc : c.callee = .builtin .append) (hargs : c.args.toList = [x, y]) (hts : c.argTypes.toList = [t, t]) {cx : Cx} (hP : cx.P = P) (hd : dOk C nt o.dst) (hf : ∀ d, o.dst = some d → σ.fresh d)
    (hm : RM C σ w Im D own) (ht : RT C nt σ w Im D a) {u v : V} (k1 : VOk w Im C.Pn σ D u (a.eval x)) (k2 : VOk w Im C.Pn σ D v (a.eval y)) (h : Run orc (appendM cx o.dst t u v) σ lg) : OpOk P C nt o a w (apps lg σ) := by
  subst hP
  unfold appendM at h
  split at h
  · rename_i d e hdst hu
    dsimp only at h
    -- behind the taking of the first list
    have main : ∀ {σ1 : St} {D1 : Nat → SD} {own1 : Nat → Option Tag} {fr1 : Nat → Prop} {k : Kd} {xs : List k.T} {f : List Nat} {l1 : List Ac}, Ext C nt a w σ Im D own σ1 Im D1 own1 fr1 → Own w Im e k xs (a.eval x) f → (∀ b ∈ f, own1 b = some (.fl 0)) →
        Run orc (if !widthOk cx.P e k then M.fail else srcM v fun e' k' ys => if e' = e then match Kd.eq? k' k with
          | some ⟨h⟩ => .ite (decide (xs.length + ys.length ≤ 1000000000)) fun
              | true => .wr (2 * d + 1) (some (.slot true [.lst .own e k (xs ++ castL h ys)])) (.wr (2 * d) (some (.one (.view d 0))) .ret)
              | false => .fail
          | none => .fail
          else .fail) σ1 l1 → OpOk cx.P C nt o a w (apps l1 σ1) := by
      intro σ1 D1 own1 fr1 k xs f l1 ext hown hfl h
      split at h
      · cases h
      · rename_i hwd
        have hwd : widthOk cx.P e k = true := by simpa using hwd
        obtain ⟨i, z, hi, hz, hsz, hzs, hby, hone⟩ := widthOk_spec hwd
        have k2' : VOk w Im C.Pn σ1 D1 v (a.eval y) := k2.imp fun l v' _ hl => ext.tl l v' hl
        obtain ⟨e', k', ys, lg2, σ2, D2, own2, news, fssY, r1, r2, ext2, r4, r5, r6, r7, r8⟩ := srcM_ok ext.rm ext.rt h k2'
        rw [r2]
        split at r1
        · rename_i hee
          split at r1
          · rename_i hkk _
            subst hkk
            cases r1 with
            | ite r1 =>
              generalize hlen : decide (xs.length + ys.length ≤ 1000000000) = zz at r1
              cases zz with
              | false => cases r1
              | true =>
                have hlen : xs.length + ys.length ≤ 1000000000 := by simpa using hlen
                cases r1 with
                | wr r1 => cases r1 with
                  | wr r1 => cases r1 with
                    | ret =>
                      obtain ⟨cs, fssX, hrow, hrX, hff, hnd⟩ := hown
                      obtain ⟨v', w', hrun, hrow', hcase⟩ := append_run (P := cx.P) (ty := o.type) hu hi hz hsz hzs (Kd.w_pos _) hby hrow r4.1 r5 r6 hlen
                      have hex : (execOp a.eval o).run cx.P w = .ok (.value v') w' := by
                        refine exec_builtin ho hc ?_
                        rw [args_two hargs, types_two hts]
                        simp only [builtin]
                        exact exec_v hrun
                      have hfl2 : ∀ b ∈ f, own2 b = some (.fl 0) := fun b hb => ext2.fl b 0 (hfl b hb)
                      have hnX : fssX.flatten.Nodup := by rw [hff] at hnd; exact (List.nodup_append.1 hnd).2.1
                      have hXf : ∀ b ∈ fssX.flatten, b ∈ f := fun b hb => by rw [hff]; exact List.mem_append_right _ hb
                      have hXY : ∀ b ∈ fssX.flatten, b ∉ fssY.flatten := fun b hb hb' => by
                        have h1 := hfl2 b (hXf b hb)
                        rw [r7 b hb'] at h1
                        cases h1
                      have hXYn : (fssX ++ fssY).flatten.Nodup := by
                        rw [List.flatten_append]
                        exact List.nodup_append.2 ⟨hnX, r8, fun p hp q hq e' => hXY p hp (e' ▸ hq)⟩
                      have hXYo : ∀ b ∈ (fssX ++ fssY).flatten, ∃ m, own2 b = some (.fl m) := fun b hb => by
                        rw [List.flatten_append] at hb
                        rcases List.mem_append.1 hb with hb | hb
                        · exact ⟨0, hfl2 b (hXf b hb)⟩
                        · exact ⟨1, r7 b hb⟩
                      -- the list that comes out, in a world where all but its own row is as it was
                      have last : ∀ {own3 : Nat → Option Tag}, RM C σ2 w' Im D2 own3 → RT C nt σ2 w' Im D2 a → (∀ b, b ∈ (fssX ++ fssY).flatten → own3 b = own2 b) → (∀ b ∈ v'.ownBlock.toList, own3 b = some (.fl 0) ∧ b ∉ (fssX ++ fssY).flatten) →
                          (∀ b, (b ∈ (fssX ++ fssY).flatten ∨ Im b) → w'.heap[b]? = w.heap[b]?) → OpOk cx.P C nt o a w (((σ2.set (2 * d + 1) (some (.slot true [.lst .own e _ (xs ++ castL rfl ys)]))).set (2 * d) (some (.one (.view d 0))))) := by
                        intro own3 hm3 ht3 ho3 hv3 hheap
                        refine .value hex ?_
                        rw [hdst]
                        have hm4 : RM C σ2 w' Im D2 (fun b => if b ∈ (fssX ++ fssY).flatten then some (.fl 0) else own3 b) := by
                          refine hm3.reown (fun p q hp hq => ?_) (fun p q hp => ?_) (fun _ h => h) (fun _ h => .inl h)
                          · rw [if_neg]
                            · exact hp
                            · intro hb
                              obtain ⟨m, hmm⟩ := hXYo p hb
                              rw [← ho3 p hb, hp] at hmm
                              cases hmm
                              exact hq m rfl
                          · split at hp
                            · rename_i hb
                              obtain ⟨m, hmm⟩ := hXYo p hb
                              rw [← ho3 p hb] at hmm
                              exact ⟨(hm3.ow p _ hmm).1, _, hmm⟩
                            · exact ⟨(hm3.ow p _ hp).1, _, hp⟩
                        have hxy : (xs ++ castL rfl ys).length = xs.length + ys.length := by simp [castL]
                        refine R.newList hm4 ht3 (hd d hdst) (fresh_of_even (fun t => (ext2.ev t).trans (ext.ev t)) (hf d hdst)) (n := 0) (f := v'.ownBlock.toList ++ (fssX ++ fssY).flatten) ⟨cs ++ news, fssX ++ fssY, by rw [hxy]; exact hrow', ?_, rfl, ?_⟩ (fun b hb => ?_)
                        · have hg := hrX.append r4
                          refine ⟨hg.1, hg.2.1, fun j p hp => ?_⟩
                          obtain ⟨g, g1, g2⟩ := hg.2.2 j p hp
                          exact ⟨g, g1, g2.imp (fun b hb => hheap b (.inr hb)) (fun _ h => h) (fun b hb => hheap b (.inl (List.mem_flatten.2 ⟨g, List.mem_of_getElem? g1, hb⟩)))⟩
                        · refine List.nodup_append.2 ⟨?_, hXYn, fun p hp q hq e' => (hv3 p hp).2 (e' ▸ hq)⟩
                          cases v'.ownBlock <;> simp
                        · rcases List.mem_append.1 hb with hb | hb
                          · show (if b ∈ (fssX ++ fssY).flatten then some (Tag.fl 0) else own3 b) = _
                            rw [if_neg (hv3 b hb).2]
                            exact (hv3 b hb).1
                          · show (if b ∈ (fssX ++ fssY).flatten then some (Tag.fl 0) else own3 b) = _
                            rw [if_pos hb]
                      have hee' : ∀ (z : List Ac), True := fun _ => trivial
                      rcases hcase with ⟨hsame, hos, htp, hout, hhs, hoth⟩ | ⟨hnew, hgr⟩
                      · -- in place
                        cases hob : (a.eval x).ownBlock with
                        | none =>
                          rw [hob] at hsame hoth
                          have hall : ∀ b, w'.heap[b]? = w.heap[b]? := fun b => hoth b (by simp)
                          have hg : Grows w w' := ⟨hos, htp, hout, by rw [hhs]; exact Nat.le_refl _, fun b _ => hall b⟩
                          exact last (ext2.rm.grow hg) (RT.grow ext2.rm ext2.rt hg) (fun _ _ => rfl) (fun b hb => by rw [hsame] at hb; simp at hb) (fun b _ => hall b)
                        | some g =>
                          rw [hob] at hsame hoth
                          have hgf : g ∈ f := by rw [hff, hob]; simp
                          have hgo := hfl2 g hgf
                          have hoth' : ∀ b, b ≠ g → w'.heap[b]? = w.heap[b]? := fun b hb => hoth b (by simpa using hb)
                          have hgXY : g ∉ (fssX ++ fssY).flatten := by
                            rw [List.flatten_append]
                            intro hb
                            rcases List.mem_append.1 hb with hb | hb
                            · rw [hff, hob] at hnd
                              exact (List.nodup_cons.1 hnd).1 hb
                            · rw [r7 g hb] at hgo; cases hgo
                          have hself : ∃ arr e, w'.heap[g]? = some (.cells arr e (0, 0)) := by
                            rcases hrow'.2 with ⟨rfl, _⟩ | ⟨g', cap', cur', rfl, _, hg', _⟩
                            · simp [Value.ownBlock] at hsame
                            · simp [Value.ownBlock] at hsame
                              subst hsame
                              exact ⟨_, _, hg'⟩
                          exact last (ext2.rm.floatRow hgo hos htp hout hhs hoth' hself) (RT.floatRow ext2.rm ext2.rt hgo hoth') (fun _ _ => rfl) (fun b hb => by rw [hsame] at hb; simp at hb; subst hb; exact ⟨hgo, hgXY⟩)
                            (fun b hb => hoth' b fun e' => by
                              subst e'
                              rcases hb with hb | hb
                              · exact hgXY hb
                              · exact (ext2.rm.ow b _ hgo).1 hb)
                      · -- a new row
                        have hnb : ∃ arr e, w'.heap[w.heap.size]? = some (.cells arr e (0, 0)) := by
                          rcases hrow'.2 with ⟨rfl, _⟩ | ⟨g', cap', cur', rfl, _, hg', _⟩
                          · simp [Value.ownBlock] at hnew
                          · simp [Value.ownBlock] at hnew
                            subst hnew
                            exact ⟨_, _, hg'⟩
                        obtain ⟨arr, e2, hnb⟩ := hnb
                        have hm3 := (ext2.rm.grow hgr).tag (.fl 0) ext2.rm.own_new (fun hi => absurd (ext2.rm.imlt _ hi) (Nat.lt_irrefl _)) ext2.rm.size hnb
                        have hnin : w.heap.size ∉ (fssX ++ fssY).flatten := fun hb => by
                          obtain ⟨m, hmm⟩ := hXYo _ hb
                          exact absurd (ext2.rm.olt hmm) (Nat.lt_irrefl _)
                        refine last hm3 (RT.grow ext2.rm ext2.rt hgr) (fun b hb => by rw [if_neg]; intro e'; subst e'; exact hnin hb) (fun b hb => by rw [hnew] at hb; simp at hb; subst hb; exact ⟨by simp, hnin⟩) (fun b hb => hgr.block b ?_)
                        rcases hb with hb | hb
                        · obtain ⟨m, hmm⟩ := hXYo b hb
                          exact ext2.rm.olt hmm
                        · exact ext2.rm.imlt b hb
          · cases r1
        · cases r1
    split at h
    · rename_i e' k
      split at h
      · have hv : a.eval x = .slice none 0 0 := k1
        refine main (Ext.refl hm ht) (xs := ([] : List k.T)) (f := []) ?_ (by simp) h
        rw [hv]
        exact ⟨[], [], ⟨by simp, .inl ⟨rfl, rfl⟩⟩, ⟨by simp, rfl, fun i x hx => by simp at hx⟩, rfl, List.nodup_nil⟩
      · cases h
    · rename_i id off
      obtain ⟨virt, ls, m, e', k, xs, lg', hg, hl, hp, hr, ha⟩ := listM_run h
      rw [ha]
      split at hr
      · split at hr
        · rename_i hee
          subst hee
          cases hr with
          | wr hr =>
            obtain ⟨v', f, D', own', t1, ext, t3, t4⟩ := take_own hm ht hg hl 0
            have hval : (D id).vs[off]? = some (a.eval x) := k1 virt ls _ _ k xs hg hl hp
            have hvv : v' = a.eval x := by rw [hval] at t1; cases t1; rfl
            subst hvv
            have := main ext t3 t4 hr
            exact this
        · cases hr
      · cases hr
    · cases h
  · cases h
end Go.Vi
/- Calls: what is handed to the callee. -/
namespace Go.Vi
set_option linter.unusedVariables false
set_option linter.unusedSimpArgs false
variable {P : Program} {orc : Orc} {C : Ct} {nt : Nat} {σ σ' : St} {w w' : World} {Im Im' Pn : Nat → Prop} {D D' : Nat → SD} {own own' : Nat → Option Tag} {a : Act} {lg : List Ac}

/-- A function's contract: from one abstract state to another one. -/
def GoF (P : Program) (f : FuncId) (σ0 σf : St) : Prop :=
  (∃ fn, P.funcs[f]? = some fn ∧ fn.body.isNone = false ∧ (fn.name == "runtime.NumGoroutine") = false) ∧
  ∀ (C : Ct) (vs : List Value), (∀ i, C.args i = if (σ0.get (2 * i + 1)).isSome then vs[i]? else none) → R C vs.length σ0 ⟨vs.toArray, []⟩ C.w0 →
    Calls P f vs.toArray C.w0 fun e w' => ∃ v, e = .returned v ∧ R { C with args := fun _ => none } (vs.length + 1) σf ⟨(v :: vs).toArray, []⟩ w'

abbrev Hs := List (Nat × Nat × List Lf)
def delHs : Hs → St → St
  | [], σ => σ
  | (_, id, _) :: r, σ => delHs r (σ.set (2 * id + 1) none)
def HandOk : Nat → List V → St → Hs → Prop
  | _, [], _, hs => hs = []
  | i, u :: us, σ, hs => (∃ id ls r, u = .one (.addr id 0) ∧ hs = (i, id, ls) :: r ∧ σ.get (2 * id + 1) = some (.slot false ls) ∧ HandOk (i + 1) us (σ.set (2 * id + 1) none) r) ∨ ((∀ id, u ≠ .one (.addr id 0)) ∧ HandOk (i + 1) us σ hs)
theorem handM_run : ∀ (us : List V) (i : Nat) {f : Hs → M} {σ : St} {lg : List Ac}, Run orc (handM i us f) σ lg → ∃ hs lg', Run orc (f hs) (delHs hs σ) lg' ∧ apps lg σ = apps lg' (delHs hs σ) ∧ HandOk i us σ hs
  | [], i, f, σ, lg, h => ⟨[], lg, h, rfl, rfl⟩
  | u :: us, i, f, σ, lg, h => by
    by_cases hu : ∃ id, u = .one (.addr id 0)
    · obtain ⟨id, rfl⟩ := hu
      simp only [handM] at h
      cases h with
      | rd h =>
        generalize hg : σ.get (2 * id + 1) = q at h
        dsimp only at h
        split at h
        · rename_i ls
          cases h with
          | wr h =>
            obtain ⟨hs, lg', h1, h2, h3⟩ := handM_run us (i + 1) h
            exact ⟨(i, id, ls) :: hs, lg', h1, h2, .inl ⟨id, ls, hs, rfl, rfl, hg, h3⟩⟩
        · cases h
    · have hne : ∀ id, u ≠ .one (.addr id 0) := fun id e => hu ⟨id, e⟩
      have h' : Run orc (handM (i + 1) us f) σ lg := by
        unfold handM at h
        split at h
        · rename_i heq; cases heq
        · rename_i heq
          cases heq
          exact absurd rfl (hne _)
        · rename_i heq
          cases heq
          exact h
      obtain ⟨hs, lg', h1, h2, h3⟩ := handM_run us (i + 1) h'
      exact ⟨hs, lg', h1, h2, .inr ⟨hne, h3⟩⟩
theorem delHs_asc : ∀ (hs : Hs) {σ : St}, σ.Asc → (delHs hs σ).Asc
  | [], _, h => h
  | (_, id, _) :: r, _, h => delHs_asc r (h.set _ _)
theorem delHs_get : ∀ (hs : Hs) (σ : St) (k : Nat), (delHs hs σ).get k = if k ∈ hs.map (fun p => 2 * p.2.1 + 1) then none else σ.get k
  | [], σ, k => by simp [delHs]
  | (i, id, ls) :: r, σ, k => by
    simp only [delHs, List.map_cons, List.mem_cons]
    rw [delHs_get r, St.get_set]
    by_cases h1 : k ∈ r.map (fun p => 2 * p.2.1 + 1)
    · simp [h1]
    · by_cases h2 : k = 2 * id + 1
      · simp [h1, h2]
      · simp [h1, h2]
structure HandFacts (i : Nat) (us : List V) (σ : St) (hs : Hs) : Prop where
  at_ : ∀ p ∈ hs, i ≤ p.1 ∧ us[p.1 - i]? = some (.one (.addr p.2.1 0)) ∧ σ.get (2 * p.2.1 + 1) = some (.slot false p.2.2)
  ids : ∀ p ∈ hs, ∀ q ∈ hs, p.2.1 = q.2.1 → p = q
  ixs : ∀ p ∈ hs, ∀ q ∈ hs, p.1 = q.1 → p = q
  of : ∀ (j id : Nat), us[j]? = some (.one (.addr id 0)) → ∃ ls, (i + j, id, ls) ∈ hs
theorem HandOk.facts : ∀ {us : List V} {i : Nat} {σ : St} {hs : Hs}, HandOk i us σ hs → HandFacts i us σ hs
  | [], i, σ, hs, h => by
    have h : hs = [] := h
    subst h
    exact ⟨fun p hp => by (cases hp), fun p hp => by (cases hp), fun p hp => by (cases hp), fun j id hj => by simp at hj⟩
  | u :: us, i, σ, hs, h => by
    rcases h with ⟨id, ls, r, rfl, rfl, hg, h⟩ | ⟨hne, h⟩
    · have f := HandOk.facts h
      have hid : ∀ p ∈ r, p.2.1 ≠ id := fun p hp e => by
        have := (f.at_ p hp).2.2
        rw [e, St.get_set, if_pos rfl] at this
        cases this
      refine ⟨fun p hp => ?_, fun p hp q hq e => ?_, fun p hp q hq e => ?_, fun j id' hj => ?_⟩
      · rcases List.mem_cons.1 hp with rfl | hp
        · exact ⟨Nat.le_refl _, by simp, hg⟩
        · obtain ⟨a1, a2, a3⟩ := f.at_ p hp
          refine ⟨by omega, ?_, by rwa [St.get_set_ne σ _ (by have := hid p hp; omega)] at a3⟩
          rw [show p.1 - i = (p.1 - (i + 1)) + 1 by omega, List.getElem?_cons_succ]
          exact a2
      · rcases List.mem_cons.1 hp with rfl | hp <;> rcases List.mem_cons.1 hq with rfl | hq
        · rfl
        · exact absurd e.symm (hid q hq)
        · exact absurd e (hid p hp)
        · exact f.ids p hp q hq e
      · rcases List.mem_cons.1 hp with rfl | hp <;> rcases List.mem_cons.1 hq with rfl | hq
        · rfl
        · have := (f.at_ q hq).1; simp at e; omega
        · have := (f.at_ p hp).1; simp at e; omega
        · exact f.ixs p hp q hq e
      · cases j with
        | zero => simp at hj; subst hj; exact ⟨ls, by simp⟩
        | succ j =>
          simp at hj
          obtain ⟨ls', h'⟩ := f.of j id' hj
          exact ⟨ls', List.mem_cons_of_mem _ (by rw [show i + (j + 1) = i + 1 + j by omega]; exact h')⟩
    · have f := HandOk.facts h
      refine ⟨fun p hp => ?_, f.ids, f.ixs, fun j id' hj => ?_⟩
      · obtain ⟨a1, a2, a3⟩ := f.at_ p hp
        refine ⟨by omega, ?_, a3⟩
        rw [show p.1 - i = (p.1 - (i + 1)) + 1 by omega, List.getElem?_cons_succ]
        exact a2
      · cases j with
        | zero => simp at hj; exact absurd hj (hne id')
        | succ j =>
          simp at hj
          obtain ⟨ls', h'⟩ := f.of j id' hj
          exact ⟨ls', by rw [show i + (j + 1) = i + 1 + j by omega]; exact h'⟩

/-! ### Values that are lent -/
/-- What is lent lies in objects that stay. -/
def Lent (σ : St) (own : Nat → Option Tag) (L : Nat → Prop) (lent : Bool) : Prop :=
  (∀ b, L b → ∃ id off, own b = some (.leaf id off) ∧ ∃ v, σ.get (2 * id + 1) = some v) ∧ (lent = false → ∀ b, ¬ L b)
theorem Lent.none : Lent σ own (fun _ => False) false := ⟨fun _ h => h.elim, fun _ _ h => h⟩
theorem Lent.or {L1 L2 : Nat → Prop} {b1 b2 : Bool} (h : Lent σ own L1 b1) (g : Lent σ own L2 b2) : Lent σ own (fun b => L1 b ∨ L2 b) (b1 || b2) :=
  ⟨fun b hb => hb.elim (h.1 b) (g.1 b), fun hb b hL => by
    simp only [Bool.or_eq_false_iff] at hb
    exact hL.elim (h.2 hb.1 b) (g.2 hb.2 b)⟩
def ArgLeaf (w : World) (Im Pn : Nat → Prop) : Lf → Value → Prop
  | .sc u, v => v = u ∧ u.oneCell' = true
  | .lst .frz e k xs, v => Frz w Im k xs v
  | .lst .pin e k xs, v => Frz w Pn k xs v
  | _, _ => False
theorem ArgLeaf.mono {l : Lf} {v : Value} (h : ArgLeaf w Im Pn l v) (hm : ∀ b, Im b → Im' b) : ArgLeaf w Im' Pn l v := by
  cases l with
  | sc u => exact h
  | lst m e k xs =>
    cases m with
    | own => exact h
    | frz => exact Frz.imp (fun _ _ => rfl) hm h
    | pin => exact h
  | _ => exact h
theorem ArgLeaf.tleaf {l : Lf} {v : Value} (h : ArgLeaf w Im Pn l v) : TLeaf w Im Pn σ D l v := by
  cases l with
  | sc u => exact h
  | lst m e k xs =>
    cases m with
    | own => exact h
    | frz => exact h
    | pin => exact h
  | _ => exact h.elim
theorem argLfM_run (hm : RM C σ w Im D own) {pin : Bool} {l : Lf} {f : Bool → Lf → M} (h : Run orc (argLfM pin l f) σ lg) {v : Value} (hv : TLeaf w Im C.Pn σ D l v) :
    ∃ lent l' lg' L, Run orc (f lent l') σ lg' ∧ apps lg σ = apps lg' σ ∧ Lent σ own L lent ∧ ArgLeaf w (fun b => Im b ∨ L b) C.Pn l' v := by
  have plain : ∀ {l' lg'}, Run orc (f false l') σ lg' → apps lg σ = apps lg' σ → ArgLeaf w Im C.Pn l' v → ∃ lent l' lg' L, Run orc (f lent l') σ lg' ∧ apps lg σ = apps lg' σ ∧ Lent σ own L lent ∧ ArgLeaf w (fun b => Im b ∨ L b) C.Pn l' v :=
    fun hr ha hl => ⟨false, _, _, fun _ => False, hr, ha, Lent.none, hl.mono fun _ => .inl⟩
  unfold argLfM at h
  split at h
  · exact plain h rfl hv
  · have hv : v = .slice none 0 0 := hv
    exact plain h rfl (.inl ⟨rfl, none, 0, hv⟩)
  · cases h
  · exact plain h rfl hv
  · cases pin with
    | true => exact plain h rfl hv
    | false => exact plain h rfl (Frz.imp (fun _ _ => rfl) hm.pnim hv)
  · rename_i id off
    obtain ⟨virt, ls, m, e, k, xs, lg', hg, hl, hp, hr, ha⟩ := listM_run h
    obtain ⟨fx, q1, q2, q3, _⟩ := view_header hm hg hl hp hv
    cases m with
    | own => exact ⟨true, _, lg', fun b => b ∈ fx, hr, ha, ⟨fun b hb => ⟨id, off, q3 b hb, _, hg⟩, fun h => by cases h⟩, Own.frz q2 (fun _ => .inl) fun _ => .inr⟩
    | frz => exact plain hr ha q2.2
    | pin => exact absurd rfl hp
  · cases h
theorem argLsM_run (hm : RM C σ w Im D own) {pin : Bool} : ∀ (ls : List Lf) {f : Bool → List Lf → M} {lg : List Ac} {vs : List Value}, Run orc (argLsM pin ls f) σ lg → All2 (TLeaf w Im C.Pn σ D) ls vs →
    ∃ lent ls' lg' L, Run orc (f lent ls') σ lg' ∧ apps lg σ = apps lg' σ ∧ Lent σ own L lent ∧ All2 (ArgLeaf w (fun b => Im b ∨ L b) C.Pn) ls' vs
  | [], f, lg, [], h, _ => ⟨false, [], lg, fun _ => False, h, rfl, Lent.none, trivial⟩
  | [], _, _, _ :: _, _, h => h.elim
  | _ :: _, _, _, [], _, h => h.elim
  | l :: r, f, lg, v :: vs, h, hv => by
    obtain ⟨b1, l', lg1, L1, h1, e1, k1, m1⟩ := argLfM_run hm h hv.1
    obtain ⟨b2, r', lg2, L2, h2, e2, k2, m2⟩ := argLsM_run hm r h1 hv.2
    exact ⟨b1 || b2, l' :: r', lg2, fun b => L1 b ∨ L2 b, h2, e1.trans e2, k1.or k2, m1.mono (fun b hb => hb.imp (fun h => h) .inl), m2.imp fun x y hxy => hxy.mono fun b hb => hb.imp (fun h => h) .inr⟩
/-- An argument's value, told for the callee. -/
def ArgOk (w : World) (Im Pn : Nat → Prop) (i : Nat) (u : V) : V → Value → Prop
  | .one (.addr j o), _ => j = i ∧ o = 0 ∧ ∃ id, u = .one (.addr id 0)
  | .one l, v => (∀ id, u ≠ .one (.addr id 0)) ∧ ArgLeaf w Im Pn l v
  | .agg ls, v => (∀ id, u ≠ .one (.addr id 0)) ∧ ∃ vs, v = .agg vs.toArray ∧ All2 (ArgLeaf w Im Pn) ls vs
  | _, _ => False
theorem ArgOk.mono {i : Nat} {u x : V} {v : Value} (h : ArgOk w Im Pn i u x v) (hm : ∀ b, Im b → Im' b) : ArgOk w Im' Pn i u x v := by
  cases x with
  | one l =>
    cases l with
    | addr j o => exact h
    | _ => exact ⟨h.1, h.2.mono hm⟩
  | agg ls =>
    obtain ⟨h0, vs, h1, h2⟩ := h
    exact ⟨h0, vs, h1, h2.imp fun x y hxy => hxy.mono hm⟩
  | _ => exact h
structure StOk (w : World) (Im Pn : Nat → Prop) (i : Nat) (us : List V) (vs : List Value) (st : St) : Prop where
  asc : st.Asc
  even : ∀ k v, st.get k = some v → ∃ j, k = 2 * (i + j) ∧ j < us.length
  low : ∀ p ∈ st, 2 * i ≤ p.1
  val : ∀ (j : Nat) u v, us[j]? = some u → vs[j]? = some v → ∃ x, st.get (2 * (i + j)) = some x ∧ ArgOk w Im Pn (i + j) u x v
theorem valsM_run (hm : RM C σ w Im D own) {pin : Bool} : ∀ (us : List V) (i : Nat) {f : St → Bool → M} {lg : List Ac} {vs : List Value}, Run orc (valsM pin i us f) σ lg → All2 (VOk w Im C.Pn σ D) us vs →
    ∃ st lent lg' L, Run orc (f st lent) σ lg' ∧ apps lg σ = apps lg' σ ∧ Lent σ own L lent ∧ StOk w (fun b => Im b ∨ L b) C.Pn i us vs st
  | [], i, f, lg, [], h, _ => ⟨[], false, lg, fun _ => False, h, rfl, Lent.none, ⟨List.Pairwise.nil, fun k v h => (by simp [St.get] at h), fun p hp => (by cases hp), fun j u v h => (by simp at h)⟩⟩
  | [], _, _, _, _ :: _, _, h => h.elim
  | _ :: _, _, _, _, [], _, h => h.elim
  | u :: us, i, f, lg, v :: vs, h, hv => by
    -- one more argument ahead of the others
    have cons : ∀ {st : St} {L : Nat → Prop} {x : V}, StOk w (fun b => Im b ∨ L b) C.Pn (i + 1) us vs st → ArgOk w (fun b => Im b ∨ L b) C.Pn i u x v → StOk w (fun b => Im b ∨ L b) C.Pn i (u :: us) (v :: vs) ((2 * i, x) :: st) := by
      intro st L x hs hx
      refine ⟨List.pairwise_cons.2 ⟨fun p hp => by have := hs.low p hp; simp; omega, hs.asc⟩, fun k y hk => ?_, fun p hp => ?_, fun j u' v' hu' hv' => ?_⟩
      · simp only [St.get] at hk
        split at hk
        · rename_i e; exact ⟨0, by omega, by simp⟩
        · obtain ⟨j, h1, h2⟩ := hs.even k y hk
          exact ⟨j + 1, by omega, by simp; omega⟩
      · rcases List.mem_cons.1 hp with rfl | hp
        · exact Nat.le_refl _
        · have := hs.low p hp; omega
      · cases j with
        | zero =>
          simp at hu' hv'
          subst hu'; subst hv'
          exact ⟨x, by simp [St.get], hx⟩
        | succ j =>
          simp at hu' hv'
          obtain ⟨y, h1, h2⟩ := hs.val j u' v' hu' hv'
          refine ⟨y, ?_, by rw [show i + (j + 1) = i + 1 + j by omega]; exact h2⟩
          simp only [St.get]
          rw [if_neg (by omega), show 2 * (i + (j + 1)) = 2 * (i + 1 + j) by omega]
          exact h1
    unfold valsM at h
    split at h
    · rename_i id
      obtain ⟨st, lent, lg', L, h1, e1, k1, m1⟩ := valsM_run hm us (i + 1) h hv.2
      exact ⟨_, _, lg', L, h1, e1, k1, cons m1 ⟨rfl, rfl, id, rfl⟩⟩
    · rename_i l hne
      obtain ⟨b1, l', lg1, L1, h1, e1, k1, m1⟩ := argLfM_run hm h hv.1
      obtain ⟨st, b2, lg2, L2, h2, e2, k2, m2⟩ := valsM_run hm us (i + 1) h1 hv.2
      have hx : ArgOk w (fun b => Im b ∨ (L1 b ∨ L2 b)) C.Pn i (.one l) (.one l') v := by
        have m1' := m1.mono (Im' := fun b => Im b ∨ (L1 b ∨ L2 b)) (fun b hb => hb.imp (fun h => h) .inl)
        cases l' with
        | addr j o => exact m1'.elim
        | _ => exact ⟨fun id e => hne id (by cases e; rfl), m1'⟩
      exact ⟨_, b1 || b2, lg2, fun b => L1 b ∨ L2 b, h2, e1.trans e2, k1.or k2, cons (L := fun b => L1 b ∨ L2 b) ⟨m2.asc, m2.even, m2.low, fun j u' v' hu' hv' => by
        obtain ⟨y, h1, h2⟩ := m2.val j u' v' hu' hv'
        exact ⟨y, h1, h2.mono fun b hb => hb.imp (fun h => h) .inr⟩⟩ hx⟩
    · rename_i ls
      obtain ⟨vs', hv', ha⟩ := hv.1
      obtain ⟨b1, ls', lg1, L1, h1, e1, k1, m1⟩ := argLsM_run hm ls h ha
      obtain ⟨st, b2, lg2, L2, h2, e2, k2, m2⟩ := valsM_run hm us (i + 1) h1 hv.2
      exact ⟨_, b1 || b2, lg2, fun b => L1 b ∨ L2 b, h2, e1.trans e2, k1.or k2, cons (L := fun b => L1 b ∨ L2 b) ⟨m2.asc, m2.even, m2.low, fun j u' v' hu' hv' => by
        obtain ⟨y, h1, h2⟩ := m2.val j u' v' hu' hv'
        exact ⟨y, h1, h2.mono fun b hb => hb.imp (fun h => h) .inr⟩⟩ ⟨fun id e => (by cases e), vs', hv', m1.imp fun x y hxy => hxy.mono fun b hb => hb.imp (fun h => h) .inl⟩⟩
    · cases h
theorem entry_asc : ∀ (hs : Hs) {st : St}, st.Asc → (entry st hs).Asc
  | [], _, h => h
  | (i, id, ls) :: r, _, h => (entry_asc r h).put _ _
theorem entry_get : ∀ (hs : Hs) (st : St) (k : Nat), (∀ p ∈ hs, k ≠ 2 * p.1 + 1) → (entry st hs).get k = st.get k
  | [], st, k, _ => rfl
  | (i, id, ls) :: r, st, k, h => by
    simp only [entry]
    rw [St.get_put_ne _ _ (h (i, id, ls) (by simp)), entry_get r st k fun p hp => h p (by simp [hp])]
theorem entry_get_in : ∀ (hs : Hs) (st : St) {p : Nat × Nat × List Lf}, (∀ p ∈ hs, ∀ q ∈ hs, p.1 = q.1 → p = q) → p ∈ hs → (entry st hs).get (2 * p.1 + 1) = some (.slot false p.2.2)
  | (i, id, ls) :: r, st, p, hu, hp => by
    simp only [entry]
    by_cases h : p.1 = i
    · have := hu p hp (i, id, ls) (by simp) h
      subst this
      exact St.get_put_same _ _ _
    · rw [St.get_put_ne _ _ (by omega)]
      rcases List.mem_cons.1 hp with rfl | hp
      · exact absurd rfl h
      · exact entry_get_in r st (fun p hp q hq => hu p (by simp [hp]) q (by simp [hq])) hp
  | [], _, _, _, h => by cases h
theorem entry_odd {hs : Hs} {st : St} {j : Nat} {v : V} (hu : ∀ p ∈ hs, ∀ q ∈ hs, p.1 = q.1 → p = q) (he : ∀ v, st.get (2 * j + 1) ≠ some v) (h : (entry st hs).get (2 * j + 1) = some v) : ∃ id ls, (j, id, ls) ∈ hs ∧ v = .slot false ls := by
  by_cases hj : ∃ p ∈ hs, 2 * j + 1 = 2 * p.1 + 1
  · obtain ⟨p, hp, e⟩ := hj
    have e : j = p.1 := by omega
    subst e
    rw [entry_get_in hs st hu hp] at h
    cases h
    exact ⟨p.2.1, p.2.2, hp, rfl⟩
  · rw [entry_get hs st _ fun p hp e => hj ⟨p, hp, e⟩] at h
    exact absurd h (he v)
end Go.Vi
/- Calls: the callee's state, and what comes back. -/
namespace Go.Vi
set_option linter.unusedVariables false
set_option linter.unusedSimpArgs false
variable {P : Program} {orc : Orc} {C : Ct} {nt : Nat} {σ σ' : St} {w w' : World} {Im Im' Pn : Nat → Prop} {D D' : Nat → SD} {own own' : Nat → Option Tag} {a : Act} {lg : List Ac}

/-! ### What comes back -/
structure BackOk (res : St) (hs : Hs) (σ1 σ2 : St) : Prop where
  asc : σ2.Asc
  fin : ∀ p ∈ hs, ∃ ls, res.get (2 * (p.1 + 1)) = some (.one (.addr (p.1 + 1) 0)) ∧ res.get (2 * (p.1 + 1) + 1) = some (.slot false ls)
  even : ∀ t u, σ2.get (2 * t) = some u → σ1.get (2 * t) = some u ∧ ∀ p ∈ hs, ∀ ls, res.get (2 * (p.1 + 1) + 1) = some (.slot false ls) → ∀ o ∈ killsOf p.2.1 0 ls, u.hits p.2.1 o = false
  odd : ∀ id v, σ2.get (2 * id + 1) = some v → (∃ p ∈ hs, p.2.1 = id ∧ res.get (2 * (p.1 + 1) + 1) = some v) ∨ ((∀ p ∈ hs, p.2.1 ≠ id) ∧ σ1.get (2 * id + 1) = some v)
theorem backM_run {res : St} {m : M} : ∀ (hs : Hs) {σ : St} {lg : List Ac}, σ.Asc → Run orc (backM res hs m) σ lg → ∃ σ2 lg', Run orc m σ2 lg' ∧ apps lg σ = apps lg' σ2 ∧ BackOk res hs σ σ2
  | [], σ, lg, ha, h => ⟨σ, lg, h, rfl, ha, fun p hp => (by cases hp), fun t u hu => ⟨hu, fun p hp => (by cases hp)⟩, fun id v hv => .inr ⟨fun p hp => (by cases hp), hv⟩⟩
  | (i, id, l0) :: r, σ, lg, ha, h => by
    simp only [backM] at h
    generalize h1 : res.get (2 * (i + 1)) = q1 at h
    generalize h2 : res.get (2 * (i + 1) + 1) = q2 at h
    split at h
    · rename_i j ls
      split at h
      · rename_i hj
        subst hj
        cases h with
        | wr h =>
          have ha1 : (σ.set (2 * id + 1) (some (.slot false ls))).Asc := ha.set _ _
          obtain ⟨lg1, h3, e3⟩ := killsM_run ls 0 ha1 h
          obtain ⟨σ2, lg2, h4, e4, k⟩ := backM_run r (kills_asc _ ha1) h3
          refine ⟨σ2, lg2, h4, e3.trans e4, k.asc, fun p hp => ?_, fun t u hu => ?_, fun id' v hv => ?_⟩
          · rcases List.mem_cons.1 hp with rfl | hp
            · exact ⟨ls, h1, h2⟩
            · exact k.fin p hp
          · obtain ⟨a1, a2⟩ := k.even t u hu
            obtain ⟨b1, b2⟩ := kills_get _ ha1 a1
            rw [St.get_set_ne σ _ (by omega)] at b1
            refine ⟨b1, fun p hp ls' hl' => ?_⟩
            rcases List.mem_cons.1 hp with rfl | hp
            · rw [h2] at hl'
              cases hl'
              exact b2
            · exact a2 p hp ls' hl'
          · rcases k.odd id' v hv with ⟨p, hp, e, hg⟩ | ⟨hne, hg⟩
            · exact .inl ⟨p, List.mem_cons_of_mem _ hp, e, hg⟩
            · obtain ⟨b1, _⟩ := kills_get _ ha1 hg
              rw [St.get_set] at b1
              by_cases hid : id' = id
              · subst hid
                simp only [if_true] at b1
                cases b1
                exact .inl ⟨_, List.mem_cons_self, rfl, h2⟩
              · rw [if_neg (by omega)] at b1
                refine .inr ⟨fun p hp => ?_, b1⟩
                rcases List.mem_cons.1 hp with rfl | hp
                · exact fun e => hid e.symm
                · exact hne p hp
      · cases h
    · cases h

/-! ### The callee's state -/
def hsIx (hs : Hs) (id : Nat) : Option Nat := (hs.find? fun p => p.2.1 == id).map (·.1)
def hsId (hs : Hs) (i : Nat) : Option Nat := (hs.find? fun p => p.1 == i).map (·.2.1)
theorem hsIx_of {hs : Hs} (hu : ∀ p ∈ hs, ∀ q ∈ hs, p.2.1 = q.2.1 → p = q) {p : Nat × Nat × List Lf} (hp : p ∈ hs) : hsIx hs p.2.1 = some p.1 := by
  unfold hsIx
  cases hf : hs.find? fun q => q.2.1 == p.2.1 with
  | none => have := List.find?_eq_none.1 hf p hp; simp at this
  | some q =>
    have h1 := List.mem_of_find?_eq_some hf
    have h2 := List.find?_some hf
    rw [hu q h1 p hp (by simpa using h2)]
    rfl
theorem hsIx_some {hs : Hs} {id i : Nat} (h : hsIx hs id = some i) : ∃ p ∈ hs, p.2.1 = id ∧ p.1 = i := by
  unfold hsIx at h
  cases hf : hs.find? fun q => q.2.1 == id with
  | none => rw [hf] at h; cases h
  | some q =>
    rw [hf] at h
    cases h
    exact ⟨q, List.mem_of_find?_eq_some hf, by simpa using List.find?_some hf, rfl⟩
theorem hsId_of {hs : Hs} (hu : ∀ p ∈ hs, ∀ q ∈ hs, p.1 = q.1 → p = q) {p : Nat × Nat × List Lf} (hp : p ∈ hs) : hsId hs p.1 = some p.2.1 := by
  unfold hsId
  cases hf : hs.find? fun q => q.1 == p.1 with
  | none => have := List.find?_eq_none.1 hf p hp; simp at this
  | some q =>
    have h1 := List.mem_of_find?_eq_some hf
    have h2 := List.find?_some hf
    rw [hu q h1 p hp (by simpa using h2)]
    rfl
theorem hsId_some {hs : Hs} {i id : Nat} (h : hsId hs i = some id) : ∃ p ∈ hs, p.1 = i ∧ p.2.1 = id := by
  unfold hsId at h
  cases hf : hs.find? fun q => q.1 == i with
  | none => rw [hf] at h; cases h
  | some q =>
    rw [hf] at h
    cases h
    exact ⟨q, List.mem_of_find?_eq_some hf, by simpa using List.find?_some hf, rfl⟩
/-- What the callee may write. -/
def calleeS (hs : Hs) (own : Nat → Option Tag) : Nat → Prop := fun b => ∃ p ∈ hs, own b = some (.box p.2.1) ∨ ∃ off, own b = some (.leaf p.2.1 off)
def calleeCt (P : Program) (C : Ct) (w : World) (hs : Hs) (own : Nat → Option Tag) (Im L : Nat → Prop) (st : St) (vals : List Value) : Ct :=
  ⟨w, calleeS hs own, fun b => Im b ∨ L b, C.Pn, fun i => if ((entry st hs).get (2 * i + 1)).isSome then vals[i]? else none⟩
def calleeOwn (hs : Hs) (own : Nat → Option Tag) : Nat → Option Tag := fun b => match own b with
  | some (.box id) => (hsIx hs id).map .box
  | some (.leaf id off) => (hsIx hs id).map fun i => .leaf i off
  | _ => none
theorem calleeOwn_some {hs : Hs} {own : Nat → Option Tag} {b : Nat} {t : Tag} (h : calleeOwn hs own b = some t) : ∃ p ∈ hs, own b = some (.box p.2.1) ∨ ∃ off, own b = some (.leaf p.2.1 off) := by
  unfold calleeOwn at h
  split at h
  · rename_i id hb
    cases hx : hsIx hs id with
    | none => rw [hx] at h; cases h
    | some i =>
      obtain ⟨p, hp, e, _⟩ := hsIx_some hx
      exact ⟨p, hp, .inl (by rw [hb, e])⟩
  · rename_i id off hb
    cases hx : hsIx hs id with
    | none => rw [hx] at h; cases h
    | some i =>
      obtain ⟨p, hp, e, _⟩ := hsIx_some hx
      exact ⟨p, hp, .inr ⟨off, by rw [hb, e]⟩⟩
  · cases h
theorem callee_in (hm : RM C σ w Im D own) (ht : RT C nt σ w Im D a) {us : List V} {vals : List Value} {hs : Hs} {st : St} {L : Nat → Prop} {lent : Bool}
    (hu : All2 (VOk w Im C.Pn σ D) us vals) (hf : HandFacts 0 us σ hs) (hL : Lent (delHs hs σ) own L lent) (hst : StOk w (fun b => Im b ∨ L b) C.Pn 0 us vals st) :
    R (calleeCt P C w hs own Im L st vals) vals.length (entry st hs) ⟨vals.toArray, []⟩ w := by
  have hL' : ∀ b, L b → (∃ id off, own b = some (.leaf id off) ∧ ∀ p ∈ hs, p.2.1 ≠ id) := fun b hb => by
    obtain ⟨id, off, h1, v, h2⟩ := hL.1 b hb
    refine ⟨id, off, h1, fun p hp e => ?_⟩
    rw [delHs_get, if_pos (List.mem_map.2 ⟨p, hp, by rw [e]⟩)] at h2
    cases h2
  have hodd : ∀ j v, st.get (2 * j + 1) ≠ some v := fun j v h => by
    obtain ⟨i, h1, _⟩ := hst.even _ _ h
    omega
  have hmem : ∀ {id : Nat} {v : V}, (entry st hs).get (2 * id + 1) = some v → ∃ id0 ls, (id, id0, ls) ∈ hs ∧ v = .slot false ls := fun h => entry_odd hf.ixs (hodd _) h
  refine ⟨fun b => Im b ∨ L b, fun j => D ((hsId hs j).getD 0), calleeOwn hs own, ?_, ?_⟩
  · refine ⟨entry_asc hs hst.asc, rfl, rfl, rfl, Nat.le_refl _, fun _ _ _ => rfl, fun b hb => ?_, fun b hb => .inl hb, fun b hb => hb, fun b hb => .inl (hm.pnim b hb), fun b t hb => ?_, fun id virt ls hg => ?_⟩
    · rcases hb with hb | hb
      · exact hm.imlt b hb
      · obtain ⟨id, off, h1, _⟩ := hL' b hb
        exact hm.olt h1
    · obtain ⟨p, hp, hb'⟩ := calleeOwn_some hb
      obtain ⟨t', ht'⟩ : ∃ t', own b = some t' := by
        rcases hb' with h | ⟨off, h⟩ <;> exact ⟨_, h⟩
      obtain ⟨h1, _, h3⟩ := hm.ow b t' ht'
      refine ⟨fun hI => ?_, .inl ⟨p, hp, hb'⟩, h3⟩
      rcases hI with hI | hI
      · exact h1 hI
      · obtain ⟨id, off, h4, h5⟩ := hL' b hI
        rcases hb' with h | ⟨off', h⟩
        · rw [h] at h4; cases h4
        · rw [h] at h4; cases h4
          exact h5 p hp rfl
    · obtain ⟨id0, ls0, hp, e⟩ := hmem hg
      cases e
      obtain ⟨_, _, hg0⟩ := hf.at_ _ hp
      obtain ⟨h1, h2, h3⟩ := hm.slot id0 false ls hg0
      have hD : (hsId hs id).getD 0 = id0 := by rw [hsId_of hf.ixs hp]; rfl
      have hI : hsIx hs id0 = some id := hsIx_of hf.ids hp
      simp only [hD]
      refine ⟨⟨h1.box, h1.vlen, h1.flen, fun i l hl => ?_⟩, fun _ => ?_, fun i f x hfx hx => ?_⟩
      · obtain ⟨v, f, a1, a2, a3⟩ := h1.leaf i l hl
        exact ⟨v, f, a1, a2, a3.imp (fun _ _ => rfl) (fun _ => .inl) (fun _ _ => rfl) (fun _ _ => rfl)⟩
      · simp only [calleeOwn, h2 rfl, hI]; rfl
      · simp only [calleeOwn, h3 i f x hfx hx, hI]; rfl
  · refine ⟨fun t v hg => ?_, rfl, by simp, fun i p hi => ?_⟩
    · rw [entry_get hs st _ (fun p _ => by omega)] at hg
      obtain ⟨j, h1, h2⟩ := hst.even _ _ hg
      have hjt : t = j := by omega
      subst hjt
      obtain ⟨cv, hcv, hok⟩ := hu.get (List.getElem?_eq_getElem h2)
      obtain ⟨x, hx, hax⟩ := hst.val t _ _ (List.getElem?_eq_getElem h2) hcv
      rw [Nat.zero_add] at hx hax
      rw [hg] at hx
      cases hx
      refine ⟨cv, by simpa using hcv, ?_⟩
      cases v with
      | one l =>
        by_cases haddr : ∃ j o, l = .addr j o
        · obtain ⟨j, o, rfl⟩ := haddr
          obtain ⟨rfl, rfl, id, hid⟩ := hax
          intro ls hg'
          obtain ⟨id0, ls0, hp, e⟩ := hmem hg'
          obtain ⟨ls', hp'⟩ := hf.of j id (by rw [List.getElem?_eq_getElem h2, hid])
          rw [Nat.zero_add] at hp'
          obtain ⟨_, _, hg0⟩ := hf.at_ _ hp'
          rw [hid] at hok
          have hD : (hsId hs j).getD 0 = id := by rw [hsId_of hf.ixs hp']; rfl
          simp only [hD]
          exact hok ls' hg0
        · have : ArgLeaf w (fun b => Im b ∨ L b) C.Pn l cv := by
            cases l <;> first | exact absurd ⟨_, _, rfl⟩ haddr | exact hax.2
          exact this.tleaf
      | agg ls =>
        obtain ⟨_, vs, h3, h4⟩ := hax
        exact ⟨vs, h3, h4.imp fun x y hxy => hxy.tleaf⟩
      | tup _ => exact hax.elim
      | slot _ _ => exact hax.elim
    · simp only [calleeCt] at hi
      split at hi
      · simpa using hi
      · cases hi
end Go.Vi
/- Calls: the caller goes on. -/
namespace Go.Vi
set_option linter.unusedVariables false
set_option linter.unusedSimpArgs false
variable {P : Program} {orc : Orc} {C : Ct} {nt : Nat} {σ σ' : St} {w w' : World} {Im Im' Pn : Nat → Prop} {D D' : Nat → SD} {own own' : Nat → Option Tag} {a : Act} {lg : List Ac}

theorem LeafOk.noFz {l : Lf} {v : Value} {f : List Nat} (hn : l.noFz = true) (h : LeafOk w Im Pn l v f) : LeafOk w Im' Pn l v f := by
  cases l with
  | lst m e k xs =>
    cases m with
    | own => exact Own.noFz hn h
    | frz => simp [Lf.noFz] at hn
    | pin => exact h
  | _ => exact h
/-- The names of the callee's objects, for the caller. -/
def backTag (hs : Hs) (d : Option Tmp) : Tag → Option Tag
  | .box 0 => d.map .box
  | .box (i + 1) => (hsId hs i).map .box
  | .leaf 0 off => d.map fun d => .leaf d off
  | .leaf (i + 1) off => (hsId hs i).map fun id => .leaf id off
  | .fl _ => none
noncomputable def backOwn (hs : Hs) (d : Option Tmp) (n : Nat) (own own2 : Nat → Option Tag) : Nat → Option Tag := fun b =>
  open Classical in if calleeS hs own b ∨ n ≤ b then (own2 b).bind (backTag hs d) else own b
def backD (hs : Hs) (d : Option Tmp) (D D2 : Nat → SD) : Nat → SD := fun j => if d = some j then D2 0 else match hsIx hs j with
  | some i => D2 (i + 1)
  | none => D j
theorem Lf.rename_ok {d : Nat} {l l' : Lf} (h : l.rename d = some l') {res σ3 : St} {D2 D3 : Nat → SD} {v : Value} (hI : ∀ b, Im b → Im' b ∨ l.noFz = true) (hv : TLeaf w Im Pn res D2 l v)
    (hg : ∀ u, σ3.get (2 * d + 1) = some u → res.get 1 = some u) (hD : D3 d = D2 0) : TLeaf w Im' Pn σ3 D3 l' v := by
  cases l with
  | sc u => cases h; exact hv
  | view id o =>
    cases id with
    | succ n => cases h
    | zero =>
      cases h
      intro virt ls m e k xs h1 h2 h3
      rw [hD]
      exact hv virt ls m e k xs (hg _ h1) h2 h3
  | addr id o =>
    cases id with
    | succ n => cases h
    | zero =>
      cases h
      intro ls h1
      rw [hD]
      exact hv ls (hg _ h1)
  | lst m e k xs =>
    cases m with
    | own => cases h
    | pin => cases h; exact hv
    | frz =>
      cases h
      refine Frz.imp (Im := Im) (fun _ _ => rfl) (fun b hb => ?_) hv
      rcases hI b hb with h | h
      · exact h
      · simp [Lf.noFz] at h
  | nil e k => cases h
  | eaddr id off i o => cases h
  | faddr k x o => cases h
  | undef => cases h
theorem renameL_ok {d : Nat} {res σ3 : St} {D2 D3 : Nat → SD} (hg : ∀ u, σ3.get (2 * d + 1) = some u → res.get 1 = some u) (hD : D3 d = D2 0) : ∀ {ls ls' : List Lf} {vs : List Value}, renameL d ls = some ls' → (∀ b, Im b → Im' b ∨ ls.all Lf.noFz = true) →
    All2 (TLeaf w Im Pn res D2) ls vs → All2 (TLeaf w Im' Pn σ3 D3) ls' vs
  | [], ls', [], h, _, _ => by simp only [renameL] at h; cases h; trivial
  | [], _, _ :: _, _, _, h => h.elim
  | _ :: _, _, [], _, _, h => h.elim
  | l :: r, ls', v :: vs, h, hI, hv => by
    simp only [renameL] at h
    split at h
    · rename_i l' r' h1 h2
      cases h
      exact ⟨Lf.rename_ok h1 (fun b hb => (hI b hb).imp (fun h => h) fun h => by simp at h; exact h.1) hv.1 hg hD, renameL_ok hg hD h2 (fun b hb => (hI b hb).imp (fun h => h) fun h => by simp at h ⊢; exact h.2) hv.2⟩
    · cases h
theorem renameT_ok {d : Nat} {res σ3 : St} {D2 D3 : Nat → SD} (hg : ∀ u, σ3.get (2 * d + 1) = some u → res.get 1 = some u) (hD : D3 d = D2 0) : ∀ {us us' : List (Bool × List Lf)} {vs : List Value}, renameT d us = some us' → (∀ b, Im b → Im' b ∨ (us.all fun p => p.2.all Lf.noFz) = true) →
    All2 (fun (p : Bool × List Lf) v => match p.1 with
      | true => ∃ vs, v = .agg vs.toArray ∧ All2 (TLeaf w Im Pn res D2) p.2 vs
      | false => ∃ l, p.2 = [l] ∧ TLeaf w Im Pn res D2 l v) us vs →
    All2 (fun (p : Bool × List Lf) v => match p.1 with
      | true => ∃ vs, v = .agg vs.toArray ∧ All2 (TLeaf w Im' Pn σ3 D3) p.2 vs
      | false => ∃ l, p.2 = [l] ∧ TLeaf w Im' Pn σ3 D3 l v) us' vs
  | [], us', [], h, _, _ => by simp only [renameT] at h; cases h; trivial
  | [], _, _ :: _, _, _, h => h.elim
  | _ :: _, _, [], _, _, h => h.elim
  | (b, ls) :: r, us', v :: vs, h, hI, hv => by
    simp only [renameT] at h
    split at h
    · rename_i ls' r' h1 h2
      cases h
      refine ⟨?_, renameT_ok hg hD h2 (fun b hb => (hI b hb).imp (fun h => h) fun h => by simp only [List.all_cons, Bool.and_eq_true] at h; exact h.2) hv.2⟩
      have hI1 : ∀ b, Im b → Im' b ∨ ls.all Lf.noFz = true := fun b hb => (hI b hb).imp (fun h => h) fun h => by simp only [List.all_cons, Bool.and_eq_true] at h; exact h.1
      cases b with
      | true =>
        obtain ⟨vs', a1, a2⟩ := hv.1
        exact ⟨vs', a1, renameL_ok hg hD h1 hI1 a2⟩
      | false =>
        obtain ⟨l, a1, a2⟩ := hv.1
        simp only at a1
        subst a1
        simp only [renameL] at h1
        split at h1
        · rename_i l' r'' b1 b2
          cases b2
          cases h1
          exact ⟨l', rfl, Lf.rename_ok b1 (fun b hb => (hI1 b hb).imp (fun h => h) fun h => by simpa using h) a2 hg hD⟩
        · cases h1
    · cases h
theorem V.rename_ok {d : Nat} {u u' : V} (h : u.rename d = some u') {res σ3 : St} {D2 D3 : Nat → SD} {v : Value} (hI : ∀ b, Im b → Im' b ∨ u.noFz = true) (hv : VOk w Im Pn res D2 u v)
    (hg : ∀ u, σ3.get (2 * d + 1) = some u → res.get 1 = some u) (hD : D3 d = D2 0) : VOk w Im' Pn σ3 D3 u' v := by
  cases u with
  | one l =>
    simp only [V.rename] at h
    split at h
    · rename_i l' h1
      cases h
      exact Lf.rename_ok h1 hI hv hg hD
    · cases h
  | agg ls =>
    simp only [V.rename] at h
    split at h
    · rename_i l' h1
      cases h
      obtain ⟨vs, a1, a2⟩ := hv
      exact ⟨vs, a1, renameL_ok hg hD h1 hI a2⟩
    · cases h
  | tup us =>
    simp only [V.rename] at h
    split at h
    · rename_i l' h1
      cases h
      obtain ⟨vs, a1, a2⟩ := hv
      exact ⟨vs, a1, renameT_ok hg hD h1 hI a2⟩
    · cases h
  | slot _ _ => cases h
/-- What the caller's state is when the callee has come back. -/
structure Came (σ res σ3 : St) (hs : Hs) (d : Option Tmp) : Prop where
  asc : σ3.Asc
  fin : ∀ p ∈ hs, ∃ ls, res.get (2 * (p.1 + 1)) = some (.one (.addr (p.1 + 1) 0)) ∧ res.get (2 * (p.1 + 1) + 1) = some (.slot false ls)
  even : ∀ t u, σ3.get (2 * t) = some u → (d = some t ∧ ∃ u0, res.get 0 = some u0 ∧ u0.rename t = some u) ∨
    (d ≠ some t ∧ σ.get (2 * t) = some u ∧ ∀ p ∈ hs, ∀ ls, res.get (2 * (p.1 + 1) + 1) = some (.slot false ls) → ∀ o ∈ killsOf p.2.1 0 ls, u.hits p.2.1 o = false)
  odd : ∀ id v, σ3.get (2 * id + 1) = some v → (d = some id ∧ res.get 1 = some v) ∨ (d ≠ some id ∧ ((∃ p ∈ hs, p.2.1 = id ∧ res.get (2 * (p.1 + 1) + 1) = some v) ∨ ((∀ p ∈ hs, p.2.1 ≠ id) ∧ σ.get (2 * id + 1) = some v)))
theorem call_back (hm : RM C σ w Im D own) (ht : RT C nt σ w Im D a) {us : List V} {vals : List Value} {hs : Hs} {st : St} {L : Nat → Prop} {lent : Bool}
    (hu : All2 (VOk w Im C.Pn σ D) us vals) (hf : HandFacts 0 us σ hs) (hL : Lent (delHs hs σ) own L lent) {d : Option Tmp} (hd : dOk C nt d) (hfr : ∀ t, d = some t → σ.fresh t) (hdh : ∀ p ∈ hs, d ≠ some p.2.1)
    {res σ3 : St} {v : Value} (hz : lent = true → ∀ k u, res.get k = some u → u.noFz = true) (hc : Came σ res σ3 hs d)
    (hR : R { calleeCt P C w hs own Im L st vals with args := fun _ => none } (vals.length + 1) res ⟨(v :: vals).toArray, []⟩ w') :
    R C nt σ3 (a.put d v) w' := by
  obtain ⟨Im2, D2, own2, hm2, ht2⟩ := hR
  have hS : ∀ b, calleeS hs own b → ∃ t, own b = some t := fun b ⟨p, _, h⟩ => by
    rcases h with h | ⟨off, h⟩ <;> exact ⟨_, h⟩
  have hsize : w.heap.size ≤ w'.heap.size := hm2.size
  have hframe : ∀ b, b < w.heap.size → ¬ calleeS hs own b → w'.heap[b]? = w.heap[b]? := hm2.frame
  have hIm : ∀ b, Im b → w'.heap[b]? = w.heap[b]? := fun b hb => hframe b (hm.imlt b hb) fun h => by
    obtain ⟨t, h⟩ := hS b h
    exact (hm.ow b t h).1 hb
  have hIm2 : ∀ b, Im b → Im2 b := fun b hb => hm2.ima b (.inl hb)
  have hnl : lent = false → ∀ b, Im2 b → Im b ∨ calleeS hs own b ∨ w.heap.size ≤ b := fun hl b hb => by
    rcases hm2.imfrom b hb with h | h
    · rcases h with h | h
      · exact .inl h
      · exact absurd h (hL.2 hl b)
    · exact .inr h
  -- the frozen ones
  let Im3 : Nat → Prop := fun b => Im b ∨ (lent = false ∧ Im2 b)
  have h23 : ∀ b, Im2 b → Im3 b ∨ lent = true := fun b hb => by
    cases hl : lent with
    | true => exact .inr rfl
    | false => exact .inl (.inr ⟨hl, hb⟩)
  have hleaf : ∀ {l : Lf} {x : Value} {f : List Nat}, (lent = true → l.noFz = true) → LeafOk w' Im2 C.Pn l x f → LeafOk w' Im3 C.Pn l x f := fun {l x f} hn h => by
    cases hl : lent with
    | true => exact h.noFz (hn hl)
    | false => exact h.imp (fun _ _ => rfl) (fun b hb => .inr ⟨hl, hb⟩) (fun _ _ => rfl) (fun _ _ => rfl)
  have hslotFz : ∀ {k virt ls}, res.get k = some (.slot virt ls) → lent = true → ∀ (i : Nat) (l : Lf), ls[i]? = some l → l.noFz = true := fun {k virt ls} hg hl i l hi => by
    have := hz hl k _ hg
    simp only [V.noFz, List.all_eq_true] at this
    exact this l (List.mem_of_getElem? hi)
  have hnew : ∀ {b : Nat} {t t' : Tag}, own2 b = some t → backTag hs d t = some t' → backOwn hs d w.heap.size own own2 b = some t' := fun {b t t'} h h' => by
    have hin : calleeS hs own b ∨ w.heap.size ≤ b := (hm2.ow b t h).2.1
    unfold backOwn
    rw [if_pos hin, h]
    exact h'
  have hold : ∀ {b : Nat} {t : Tag}, own b = some t → (∀ p ∈ hs, t ≠ .box p.2.1 ∧ ∀ off, t ≠ .leaf p.2.1 off) → ¬ calleeS hs own b ∧ backOwn hs d w.heap.size own own2 b = some t := fun {b t} h hne => by
    have h1 : ¬ calleeS hs own b := fun ⟨p, hp, hb⟩ => by
      rcases hb with hb | ⟨off, hb⟩
      · rw [h] at hb; cases hb; exact (hne p hp).1 rfl
      · rw [h] at hb; cases hb; exact (hne p hp).2 off rfl
    refine ⟨h1, ?_⟩
    unfold backOwn
    rw [if_neg (fun hc => hc.elim h1 fun hlt => absurd (hm.olt h) (by omega))]
    exact h
  have hDd : ∀ {t}, d = some t → backD hs d D D2 t = D2 0 := fun h => by simp [backD, h]
  have hDh : ∀ {p}, p ∈ hs → backD hs d D D2 p.2.1 = D2 (p.1 + 1) := fun {p} hp => by
    simp only [backD, if_neg (hdh p hp), hsIx_of hf.ids hp]
  have hDo : ∀ {id}, d ≠ some id → (∀ p ∈ hs, p.2.1 ≠ id) → backD hs d D D2 id = D id := fun {id} h h' => by
    have : hsIx hs id = none := by
      cases hx : hsIx hs id with
      | none => rfl
      | some i =>
        obtain ⟨p, hp, e, _⟩ := hsIx_some hx
        exact absurd e (h' p hp)
    simp only [backD, if_neg h, this]
  -- the handed variables' blocks
  have hbox : ∀ p ∈ hs, (D2 (p.1 + 1)).b = (D p.2.1).b := fun p hp => by
    obtain ⟨ls, g1, g2⟩ := hc.fin p hp
    obtain ⟨_, u1, u2⟩ := hf.at_ p hp
    obtain ⟨cv, h1, h2⟩ := ht2.temp (p.1 + 1) _ g1
    have h3 : cv = .pointer (some ⟨(D2 (p.1 + 1)).b, 0, none⟩) := h2 ls g2
    obtain ⟨y, y1, y2⟩ := hu.get u1
    have h4 : y = .pointer (some ⟨(D p.2.1).b, 0, none⟩) := y2 _ u2
    have h5 : vals[p.1]? = some cv := by simpa using h1
    rw [Nat.sub_zero] at y1
    rw [y1, h4] at h5
    rw [h3] at h5
    simp at h5
    exact h5.symm
  have hM : RM C σ3 w' Im3 (backD hs d D D2) (backOwn hs d w.heap.size own own2) := by
    refine ⟨hc.asc, hm2.os.trans hm.os, hm2.tape.trans hm.tape, hm2.output.trans hm.output, Nat.le_trans hm.size hsize, fun b hb hs' => ?_, fun b hb => ?_, fun b hb => ?_, fun b hb => .inl (hm.ima b hb), hm.pna, fun b t hb => ?_, fun id virt ls hg => ?_⟩
    · rw [hframe b (Nat.lt_of_lt_of_le hb hm.size) fun h => ?_]
      · exact hm.frame b hb hs'
      · obtain ⟨t, h⟩ := hS b h
        rcases (hm.ow b t h).2.1 with h | h
        · exact hs' h
        · omega
    · rcases hb with hb | ⟨_, hb⟩
      · exact Nat.lt_of_lt_of_le (hm.imlt b hb) hsize
      · exact hm2.imlt b hb
    · rcases hb with hb | ⟨hl, hb⟩
      · exact hm.imfrom b hb
      · rcases hnl hl b hb with h | h | h
        · exact hm.imfrom b h
        · obtain ⟨t, h⟩ := hS b h
          exact .inr (hm.ow b t h).2.1
        · exact .inr (.inr (Nat.le_trans hm.size h))
    · unfold backOwn at hb
      split at hb
      · rename_i hin
        cases h2 : own2 b with
        | none => rw [h2] at hb; cases hb
        | some t2 =>
          obtain ⟨k1, k2, k3⟩ := hm2.ow b t2 h2
          refine ⟨fun hi => ?_, ?_, k3⟩
          · rcases hi with hi | ⟨_, hi⟩
            · exact k1 (hIm2 b hi)
            · exact k1 hi
          · rcases hin with h | h
            · obtain ⟨t, h⟩ := hS b h
              exact (hm.ow b t h).2.1
            · exact .inr (Nat.le_trans hm.size h)
      · rename_i hout
        obtain ⟨k1, k2, k3⟩ := hm.ow b t hb
        have hns : ¬ calleeS hs own b := fun h => hout (.inl h)
        refine ⟨fun hi => ?_, k2, ?_⟩
        · rcases hi with hi | ⟨hl, hi⟩
          · exact k1 hi
          · rcases hnl hl b hi with h | h
            · exact k1 h
            · exact hout h
        · rw [hframe b (hm.olt hb) hns]; exact k3
    · rcases hc.odd id _ hg with ⟨hdi, hr⟩ | ⟨hdi, ⟨p, hp, e, hr⟩ | ⟨hne, hr⟩⟩
      · obtain ⟨s1, s2, s3⟩ := hm2.slot 0 virt ls hr
        rw [hDd hdi]
        refine ⟨⟨s1.box, s1.vlen, s1.flen, fun i l hl => ?_⟩, fun hv => hnew (s2 hv) (by simp [backTag, hdi]), fun i f x hfx hx => hnew (s3 i f x hfx hx) (by simp [backTag, hdi])⟩
        obtain ⟨y, f, a1, a2, a3⟩ := s1.leaf i l hl
        exact ⟨y, f, a1, a2, hleaf (fun h => hslotFz hr h i l hl) a3⟩
      · subst e
        obtain ⟨s1, s2, s3⟩ := hm2.slot (p.1 + 1) virt ls hr
        have hx : hsId hs p.1 = some p.2.1 := hsId_of hf.ixs hp
        rw [hDh hp]
        refine ⟨⟨s1.box, s1.vlen, s1.flen, fun i l hl => ?_⟩, fun hv => hnew (s2 hv) (by simp [backTag, hx]), fun i f x hfx hxx => hnew (s3 i f x hfx hxx) (by simp [backTag, hx])⟩
        obtain ⟨y, f, a1, a2, a3⟩ := s1.leaf i l hl
        exact ⟨y, f, a1, a2, hleaf (fun h => hslotFz hr h i l hl) a3⟩
      · obtain ⟨s1, s2, s3⟩ := hm.slot id virt ls hr
        rw [hDo hdi hne]
        have hbt : ∀ {b}, own b = some (.box id) → _ := fun {b} h => hold h fun p hp => ⟨fun e => hne p hp (by cases e; rfl), fun off e => by cases e⟩
        have hlt : ∀ {b off}, own b = some (.leaf id off) → _ := fun {b off} h => hold h fun p hp => ⟨fun e => (by cases e), fun off e => hne p hp (by cases e; rfl)⟩
        refine ⟨⟨fun hv => ?_, s1.vlen, s1.flen, fun i l hl => ?_⟩, fun hv => (hbt (s2 hv)).2, fun i f x hfx hx => (hlt (s3 i f x hfx hx)).2⟩
        · obtain ⟨e, he⟩ := s1.box hv
          exact ⟨e, by rw [hframe _ (hm.olt (s2 hv)) (hbt (s2 hv)).1]; exact he⟩
        · obtain ⟨y, f, a1, a2, a3⟩ := s1.leaf i l hl
          exact ⟨y, f, a1, a2, a3.imp hIm (fun _ h => .inl h) (fun b hb => hIm b (hm.pnim b hb)) fun b hb => hframe b (hm.olt (s3 i f b a2 hb)) (hlt (s3 i f b a2 hb)).1⟩
  have hT : RT C nt σ3 w' Im3 (backD hs d D D2) (a.put d v) := by
    refine ⟨fun t u hg => ?_, ?_, ?_, fun i p hi => ?_⟩
    · rcases hc.even t u hg with ⟨hdt, u0, r1, r2⟩ | ⟨hdt, hgs, hk⟩
      · refine ⟨v, ?_, ?_⟩
        · subst hdt
          simp [Act.put, ht.size, (hd t rfl).1]
        · obtain ⟨cv, c1, c2⟩ := ht2.temp 0 u0 r1
          have : cv = v := by simp at c1; exact c1.symm
          subst this
          refine V.rename_ok r2 (fun b hb => (h23 b hb).imp (fun h => h) fun h => hz h 0 u0 r1) c2 (fun u' hu' => ?_) (hDd hdt)
          rcases hc.odd t u' hu' with ⟨_, h⟩ | ⟨h, _⟩
          · exact h
          · exact absurd hdt h
      · obtain ⟨cv, c1, c2⟩ := ht.temp t u hgs
        refine ⟨cv, ?_, ?_⟩
        · cases d with
          | none => exact c1
          | some t' =>
            simp only [Act.put]
            rw [Array.getElem?_setIfInBounds_ne (fun e => hdt (by rw [e]))]
            exact c1
        · refine c2.imp fun l x hr hl => hl.imp hIm (fun _ h => .inl h) (fun b hb => hIm b (hm.pnim b hb)) fun id virt ls hid hs' => ?_
          have hidd : d ≠ some id := fun e => hfr id e t u hgs (hr.1 id hid)
          rcases hc.odd id _ hs' with ⟨h, _⟩ | ⟨_, ⟨p, hp, e, hrr⟩ | ⟨hne, hrr⟩⟩
          · exact absurd h hidd
          · subst e
            obtain ⟨_, _, u2⟩ := hf.at_ p hp
            obtain ⟨ls', _, g2⟩ := hc.fin p hp
            rw [g2] at hrr
            cases hrr
            refine ⟨_, u2, fun _ => by rw [hDh hp]; exact hbox p hp, fun off m e k xs hh hl' hpn => ?_⟩
            have hko : 0 + off ∈ killsOf p.2.1 0 ls := mem_killsOf hl' hpn
            have := hk p hp ls g2 _ hko
            rw [Nat.zero_add, hr.2 p.2.1 off hh] at this
            cases this
          · exact ⟨ls, hrr, fun _ => by rw [hDo hidd hne], fun off m e k xs _ hl' hpn => ⟨m, e, xs, hl', hpn, Nat.le_refl _, by rw [hDo hidd hne]⟩⟩
    · cases d <;> exact ht.defers
    · cases d with
      | none => exact ht.size
      | some t => simp [Act.put, ht.size]
    · cases d with
      | none => exact ht.keep i p hi
      | some t =>
        have hne : t ≠ i := fun e => by rw [← e, (hd t rfl).2] at hi; cases hi
        simp only [Act.put]
        rw [Array.getElem?_setIfInBounds_ne hne]
        exact ht.keep i p hi
  exact ⟨Im3, _, _, hM, hT⟩

/-! ### The operation -/
theorem valM_from {x : Operand} {f : V → M} (h : Run orc (valM x f) σ lg) (ht : RT C nt σ w Im D a) :
    ∃ v lg', Run orc (f v) σ lg' ∧ apps lg σ = apps lg' σ ∧ VOk w Im C.Pn σ D v (a.eval x) ∧ ((∃ t, σ.get (2 * t) = some v) ∨ ∀ id off, v ≠ .one (.addr id off)) := by
  cases x with
  | tmp t =>
    cases h with
    | rd h =>
      generalize hg : σ.get (2 * t) = o at h
      cases o with
      | none => cases h
      | some v =>
        obtain ⟨cv, h1, h2⟩ := ht.temp t v hg
        refine ⟨v, _, h, rfl, ?_, .inl ⟨t, hg⟩⟩
        simp only [Act.eval, Array.getD_eq_getD_getElem?, h1, Option.getD_some]
        exact h2
  | const c =>
    let f' : V → M := fun v => match v with
      | .one (.addr _ _) => .fail
      | v => f v
    have h' : Run orc (valM (.const c) f') σ lg := by
      cases c with
      | agg cs =>
        simp only [valM] at h ⊢
        split
        · rename_i ho; rw [ho] at h; exact h
        · rename_i ho; rw [ho] at h; exact h
      | tuple cs => exact h
      | _ => exact h
    obtain ⟨v, lg', h1, h2, h3⟩ := valM_run ht h'
    have hv : ∀ id off, v ≠ .one (.addr id off) := fun id off e => by
      subst e
      cases h1
    refine ⟨v, lg', ?_, h2, h3, .inr hv⟩
    cases v with
    | one l => cases l <;> first | exact h1 | exact absurd rfl (hv _ _)
    | _ => exact h1
  | func g => exact ⟨_, lg, h, rfl, ⟨rfl, rfl⟩, .inr fun id off e => by cases e⟩
  | global g => cases h
theorem partsM_from (ht : RT C nt σ w Im D a) : ∀ (xs : List Operand) {f : List V → M} {lg : List Ac}, Run orc (partsM xs f) σ lg → ∃ vs lg', Run orc (f vs) σ lg' ∧ apps lg σ = apps lg' σ ∧ All2 (VOk w Im C.Pn σ D) vs (xs.map a.eval) ∧
    ∀ v ∈ vs, (∃ t, σ.get (2 * t) = some v) ∨ ∀ id off, v ≠ .one (.addr id off)
  | [], f, lg, h => ⟨[], lg, h, rfl, trivial, fun v hv => by cases hv⟩
  | x :: r, f, lg, h => by
    obtain ⟨v, lg1, h1, e1, k1, j1⟩ := valM_from h ht
    obtain ⟨vs, lg2, h2, e2, k2, j2⟩ := partsM_from ht r h1
    refine ⟨v :: vs, lg2, h2, e1.trans e2, ⟨k1, k2⟩, fun u hu => ?_⟩
    rcases List.mem_cons.1 hu with rfl | hu
    · exact j1
    · exact j2 u hu
theorem fixLf_addr {k : Kd} {l : Lf} {id off : Nat} (h : fixLf k l = .addr id off) : l = .addr id off := by
  unfold fixLf at h
  split at h <;> first | exact h | cases h
theorem fix_addr {ks : List Kd} {u : V} {id off : Nat} (h : u.fix ks = .one (.addr id off)) : u = .one (.addr id off) := by
  cases u with
  | one l =>
    simp only [V.fix] at h
    split at h
    · rename_i l' he
      cases ks with
      | nil => simp only [fixLs] at he; cases he; exact h
      | cons k ks =>
        simp only [fixLs] at he
        cases he
        cases h' : fixLf k l <;> rw [h'] at h <;> cases h
        rw [fixLf_addr h']
    · exact h
  | agg ls => cases h
  | tup us => cases h
  | slot _ _ => cases h
theorem fixVs_ok : ∀ {us : List V} {ts : List TypeId} {vals : List Value}, All2 (VOk w Im Pn σ D) us vals → All2 (VOk w Im Pn σ D) (fixVs P us ts) vals
  | [], ts, [], h => by cases ts <;> exact h
  | u :: us, [], v :: vs, h => h
  | u :: us, t :: ts, v :: vs, h => ⟨fix_ok (C := ⟨default, fun _ => False, fun _ => False, Pn, fun _ => none⟩) h.1, fixVs_ok h.2⟩
  | [], _, _ :: _, h => h.elim
  | _ :: _, _, [], h => h.elim
theorem fixVs_from : ∀ {us : List V} {ts : List TypeId}, (∀ v ∈ us, (∃ t, σ.get (2 * t) = some v) ∨ ∀ id off, v ≠ .one (.addr id off)) → ∀ v ∈ fixVs P us ts, (∃ t, σ.get (2 * t) = some v) ∨ ∀ id off, v ≠ .one (.addr id off)
  | [], ts, h, v, hv => by cases ts <;> cases hv
  | u :: us, [], h, v, hv => h v hv
  | u :: us, t :: ts, h, v, hv => by
    rcases List.mem_cons.1 hv with rfl | hv
    · by_cases ha : ∃ id off, u.fix (leafsOf P t) = .one (.addr id off)
      · obtain ⟨id, off, ha⟩ := ha
        have hu := fix_addr ha
        rcases h u (by simp) with ⟨t', ht'⟩ | hne
        · exact .inl ⟨t', by rw [ha, ht', hu]⟩
        · exact absurd hu (hne id off)
      · exact .inr fun id off e => ha ⟨id, off, e⟩
    · exact fixVs_from (fun v hv => h v (by simp [hv])) v hv
theorem frzLf_ok (hm : RM C σ w Im D own) (ht : RT C nt σ w Im D a) {l : Lf} {k : Lf → M} (h : Run orc (frzLfM l k) σ lg) {v : Value} (hv : TLeaf w Im C.Pn σ D l v) :
    ∃ l' lg' σ' Im' D' own' fr, Run orc (k l') σ' lg' ∧ apps lg σ = apps lg' σ' ∧ Ext C nt a w σ Im D own σ' Im' D' own' fr ∧ TLeaf w Im' C.Pn σ' D' l' v ∧ (∀ id off, l' = .addr id off → l = l') := by
  cases l with
  | view id off =>
    obtain ⟨virt, ls, m, e, kd, xs, lg', hg, hl, hp, hr, ha⟩ := listM_run h
    have hval : (D id).vs[off]? = some v := hv virt ls m e kd xs hg hl hp
    cases m with
    | own =>
      cases hr with
      | wr hr =>
        obtain ⟨v', Im', D', own', h1, h2, h3⟩ := freeze_own hm ht hg hl
        have hvv : v' = v := by rw [hval] at h1; cases h1; rfl
        subst hvv
        exact ⟨_, _, _, Im', D', own', _, hr, ha, h2, h3, fun _ _ e => by cases e⟩
    | frz => exact ⟨_, _, σ, Im, D, own, _, hr, ha, Ext.refl hm ht, hv, fun _ _ e => by cases e⟩
    | pin => exact absurd rfl hp
  | _ => exact ⟨_, lg, σ, Im, D, own, _, h, rfl, Ext.refl hm ht, hv, fun _ _ _ => rfl⟩
theorem frzLs_ok : ∀ (ls : List Lf) {k : List Lf → M} {σ : St} {Im : Nat → Prop} {D : Nat → SD} {own : Nat → Option Tag} {lg : List Ac} {vs : List Value} (hm : RM C σ w Im D own) (ht : RT C nt σ w Im D a) (h : Run orc (frzLsM ls k) σ lg) (hv : All2 (TLeaf w Im C.Pn σ D) ls vs),
    ∃ ls' lg' σ' Im' D' own' fr, Run orc (k ls') σ' lg' ∧ apps lg σ = apps lg' σ' ∧ Ext C nt a w σ Im D own σ' Im' D' own' fr ∧ All2 (TLeaf w Im' C.Pn σ' D') ls' vs
  | [], k, σ, Im, D, own, lg, [], hm, ht, h, _ => ⟨[], lg, σ, Im, D, own, _, h, rfl, Ext.refl hm ht, trivial⟩
  | [], _, _, _, _, _, _, _ :: _, _, _, _, hv => hv.elim
  | _ :: _, _, _, _, _, _, _, [], _, _, _, hv => hv.elim
  | l :: r, k, σ, Im, D, own, lg, v :: vs, hm, ht, h, hv => by
    obtain ⟨l', lg1, σ1, Im1, D1, own1, fr1, h1, e1, x1, k1, _⟩ := frzLf_ok hm ht h hv.1
    obtain ⟨r', lg2, σ2, Im2, D2, own2, fr2, h2, e2, x2, k2⟩ := frzLs_ok r x1.rm x1.rt h1 (hv.2.imp x1.tl)
    exact ⟨l' :: r', lg2, σ2, Im2, D2, own2, _, h2, e1.trans e2, x1.trans x2, x2.tl _ _ k1, k2⟩
theorem VOk.ext {fr : Nat → Prop} (x : Ext C nt a w σ Im D own σ' Im' D' own' fr) {u : V} {v : Value} (h : VOk w Im C.Pn σ D u v) : VOk w Im' C.Pn σ' D' u v := h.imp fun l v' _ hl => x.tl l v' hl
theorem frzVs_ok : ∀ (us : List V) {k : List V → M} {σ : St} {Im : Nat → Prop} {D : Nat → SD} {own : Nat → Option Tag} {lg : List Ac} {vs : List Value} (hm : RM C σ w Im D own) (ht : RT C nt σ w Im D a) (h : Run orc (frzVsM us k) σ lg) (hv : All2 (VOk w Im C.Pn σ D) us vs),
    ∃ us' lg' σ' Im' D' own' fr, Run orc (k us') σ' lg' ∧ apps lg σ = apps lg' σ' ∧ Ext C nt a w σ Im D own σ' Im' D' own' fr ∧ All2 (VOk w Im' C.Pn σ' D') us' vs ∧ (∀ u ∈ us', ∀ id off, u = .one (.addr id off) → u ∈ us)
  | [], k, σ, Im, D, own, lg, [], hm, ht, h, _ => ⟨[], lg, σ, Im, D, own, _, h, rfl, Ext.refl hm ht, trivial, fun u hu => by cases hu⟩
  | [], _, _, _, _, _, _, _ :: _, _, _, _, hv => hv.elim
  | _ :: _, _, _, _, _, _, _, [], _, _, _, hv => hv.elim
  | u :: r, k, σ, Im, D, own, lg, v :: vs, hm, ht, h, hv => by
    simp only [frzVsM] at h
    cases u with
    | one l =>
      obtain ⟨l', lg1, σ1, Im1, D1, own1, fr1, h1, e1, x1, k1, j1⟩ := frzLf_ok hm ht h hv.1
      obtain ⟨r', lg2, σ2, Im2, D2, own2, fr2, h2, e2, x2, k2, j2⟩ := frzVs_ok r x1.rm x1.rt h1 (hv.2.imp fun x y hxy => hxy.ext x1)
      refine ⟨.one l' :: r', lg2, σ2, Im2, D2, own2, _, h2, e1.trans e2, x1.trans x2, ⟨x2.tl _ _ k1, k2⟩, fun u hu id off e => ?_⟩
      rcases List.mem_cons.1 hu with rfl | hu
      · cases e; rw [j1 id off rfl]; simp
      · exact List.mem_cons_of_mem _ (j2 u hu id off e)
    | agg ls =>
      obtain ⟨cs, hc, hall⟩ := hv.1
      obtain ⟨ls', lg1, σ1, Im1, D1, own1, fr1, h1, e1, x1, k1⟩ := frzLs_ok ls hm ht h hall
      obtain ⟨r', lg2, σ2, Im2, D2, own2, fr2, h2, e2, x2, k2, j2⟩ := frzVs_ok r x1.rm x1.rt h1 (hv.2.imp fun x y hxy => hxy.ext x1)
      refine ⟨.agg ls' :: r', lg2, σ2, Im2, D2, own2, _, h2, e1.trans e2, x1.trans x2, ⟨⟨cs, hc, k1.imp x2.tl⟩, k2⟩, fun u hu id off e => ?_⟩
      rcases List.mem_cons.1 hu with rfl | hu
      · cases e
      · exact List.mem_cons_of_mem _ (j2 u hu id off e)
    | tup ls =>
      obtain ⟨r', lg2, σ2, Im2, D2, own2, fr2, h2, e2, x2, k2, j2⟩ := frzVs_ok r hm ht h hv.2
      refine ⟨.tup ls :: r', lg2, σ2, Im2, D2, own2, _, h2, e2, x2, ⟨hv.1.ext x2, k2⟩, fun u hu id off e => ?_⟩
      rcases List.mem_cons.1 hu with rfl | hu
      · cases e
      · exact List.mem_cons_of_mem _ (j2 u hu id off e)
    | slot q ls => exact hv.1.elim
theorem call_core {o : Oper} {c : Call} {g : FuncId} (ho : o.op = .call c) (hcc : c.callee = .value (.func g)) {cx : Cx} (hd : dOk C nt o.dst) (hfr : ∀ d, o.dst = some d → σ.fresh d) (hm : RM C σ w Im D own) (ht : RT C nt σ w Im D a) {us : List V} {lg0 : List Ac}
    (h0 : Run (GoF P) (callM' cx o.dst g us) σ lg0) (k0 : All2 (VOk w Im C.Pn σ D) us (c.args.toList.map a.eval)) (j0 : ∀ v ∈ us, (∃ t, σ.get (2 * t) = some v) ∨ ∀ id off, v ≠ .one (.addr id off)) : OpOk P C nt o a w (apps lg0 σ) := by
  unfold callM' at h0
  obtain ⟨hs, lg1, h1, e1, k1⟩ := handM_run us 0 h0
  have hf := k1.facts
  have hsub : ∀ k v, (delHs hs σ).get k = some v → σ.get k = some v := fun k v hk => by
    rw [delHs_get] at hk
    split at hk
    · cases hk
    · exact hk
  have hm1 : RM C (delHs hs σ) w Im D own := hm.sub (delHs_asc hs hm.asc) fun id virt ls hg => hsub _ _ hg
  have ht1 : RT C nt (delHs hs σ) w Im D a := RT.sub hm ht (fun t v hg => hsub _ _ hg) fun id virt ls hg => hsub _ _ hg
  have ku : All2 (VOk w Im C.Pn (delHs hs σ) D) us (c.args.toList.map a.eval) := k0.imp fun u v huv => huv.imp fun l x _ hl => hl.imp (fun _ _ => rfl) (fun _ hb => hb) (fun _ _ => rfl) fun id virt ls _ hg => ⟨ls, hsub _ _ hg, fun _ => rfl, fun off m e k xs _ hl hp => ⟨m, e, xs, hl, hp, Nat.le_refl _, rfl⟩⟩
  obtain ⟨st, lent, lg2, L, h2, e2, kL, kS⟩ := valsM_run hm1 us 0 h1 ku
  rw [e1, e2]
  have hlen : us.length = (c.args.toList.map a.eval).length := k0.length
  have hdh : ∀ p ∈ hs, o.dst ≠ some p.2.1 := fun p hp e => by
    obtain ⟨_, q, _⟩ := hf.at_ p hp
    rcases j0 _ (List.mem_of_getElem? q) with ⟨t, hg⟩ | hne
    · exact hfr _ e t _ hg (by simp [V.refs, Lf.refs])
    · exact hne _ _ rfl
  have hin := callee_in (P := P) hm ht k0 hf kL kS
  cases h2 with
  | call hor h3 =>
    rename_i res
    obtain ⟨⟨fn, f1, f2, f3⟩, hgo⟩ := hor
    have hcalls := hgo (calleeCt P C w hs own Im L st (c.args.toList.map a.eval)) (c.args.toList.map a.eval) (fun i => rfl) hin
    dsimp only at h3
    generalize hz : (!lent || List.all res fun p => p.2.noFz) = z at h3
    cases z with
    | false => cases h3
    | true =>
      have hz' : lent = true → ∀ k u, res.get k = some u → u.noFz = true := fun hl k u hg => by
        rw [hl] at hz
        simp only [Bool.not_true, Bool.false_or, List.all_eq_true] at hz
        exact hz (k, u) (St.mem_of_get hg)
      obtain ⟨σ2, lg3, h4, e4, kb⟩ := backM_run hs (delHs_asc hs hm.asc) h3
      -- what is put behind it
      have hend : Came σ res (apps lg3 σ2) hs o.dst := by
        have hev : ∀ t u, σ2.get (2 * t) = some u → σ.get (2 * t) = some u ∧ ∀ p ∈ hs, ∀ ls, res.get (2 * (p.1 + 1) + 1) = some (.slot false ls) → ∀ o ∈ killsOf p.2.1 0 ls, u.hits p.2.1 o = false := fun t u hu => ⟨hsub _ _ (kb.even t u hu).1, (kb.even t u hu).2⟩
        have hod : ∀ id v, σ2.get (2 * id + 1) = some v → (∃ p ∈ hs, p.2.1 = id ∧ res.get (2 * (p.1 + 1) + 1) = some v) ∨ ((∀ p ∈ hs, p.2.1 ≠ id) ∧ σ.get (2 * id + 1) = some v) := fun id v hv => (kb.odd id v hv).imp (fun h => h) fun h => ⟨h.1, hsub _ _ h.2⟩
        cases hdst : o.dst with
        | none =>
          rw [hdst] at h4
          cases h4 with
          | ret => exact ⟨kb.asc, kb.fin, fun t u hu => .inr ⟨by simp, hev t u hu⟩, fun id v hv => .inr ⟨by simp, hod id v hv⟩⟩
        | some d =>
          rw [hdst] at h4
          dsimp only at h4
          split at h4
          · rename_i u0 hu0
            split at h4
            · rename_i u' hu'
              cases h4 with
              | wr h4 => cases h4 with
                | wr h4 => cases h4 with
                  | ret =>
                    refine ⟨apps_asc [.wr (2 * d + 1) (res.get 1) [], .wr (2 * d) (some u') []] kb.asc, kb.fin, fun t u hu => ?_, fun id v hv => ?_⟩
                    · simp only [apps, Ac.app] at hu
                      rw [St.get_set] at hu
                      split at hu
                      · rename_i he
                        have he : t = d := by omega
                        subst he
                        cases hu
                        exact .inl ⟨rfl, u0, hu0, hu'⟩
                      · rename_i he
                        rw [St.get_set_ne _ _ (by omega)] at hu
                        exact .inr ⟨fun e => he (by cases e; rfl), hev t u hu⟩
                    · simp only [apps, Ac.app] at hv
                      rw [St.get_set_ne _ _ (by omega), St.get_set] at hv
                      split at hv
                      · rename_i he
                        have he : id = d := by omega
                        subst he
                        exact .inl ⟨rfl, hv⟩
                      · rename_i he
                        exact .inr ⟨fun e => he (by cases e; rfl), hod id v hv⟩
            · cases h4
          · cases h4
      rw [e4]
      have hexec : (execOp a.eval o).run P w = .ok (.enter g (c.args.toList.map a.eval).toArray) w := by
        have hn : fn.name ≠ "runtime.NumGoroutine" := by simpa using f3
        have hb : fn.body ≠ none := fun e => by rw [e] at f2; cases f2
        have hargs : c.args.map a.eval = (c.args.toList.map a.eval).toArray := by
          apply Array.ext'
          simp only [Array.toList_map]
        simp only [execOp, ho, resolve, hcc]
        rw [hargs]
        simp [Act.eval, Deferred.ofValue, invoke, callFunc, f1, hn, hb]
      intro K Q hK
      unfold Oper.wp
      rw [hexec, Oper.upon_enter]
      refine hcalls.mono fun e w' hew => ?_
      obtain ⟨v, rfl, hv⟩ := hew
      exact hK _ _ (call_back hm ht k0 hf kL hd hfr hdh hz' hend hv)
theorem ok_call {o : Oper} {c : Call} {g : FuncId} (ho : o.op = .call c) (hcc : c.callee = .value (.func g)) {cx : Cx} (hP : cx.P = P) (hd : dOk C nt o.dst) (hfr : ∀ d, o.dst = some d → σ.fresh d) (hm : RM C σ w Im D own) (ht : RT C nt σ w Im D a) (h : Run (GoF P) (opM cx o) σ lg) : OpOk P C nt o a w (apps lg σ) := by
  unfold opM at h
  rw [ho] at h
  dsimp only at h
  rw [hcc] at h
  dsimp only at h
  obtain ⟨us0, lg0, h0, e0, k0, j0⟩ := partsM_from ht _ h
  rw [e0]
  have k0 := fixVs_ok (P := cx.P) (ts := c.argTypes.toList) k0
  have j0 := fixVs_from (P := cx.P) (ts := c.argTypes.toList) j0
  generalize fixVs cx.P us0 c.argTypes.toList = us at h0 k0 j0
  unfold callM at h0
  split at h0
  · obtain ⟨us', lg1, σ1, Im1, D1, own1, fr1, h1, e1, x1, k1, j1⟩ := frzVs_ok us hm ht h0 k0
    rw [e1]
    refine call_core ho hcc hd (fun d hdd t u hg => hfr d hdd t u (by rw [← x1.ev]; exact hg)) x1.rm x1.rt h1 k1 fun v hv => ?_
    by_cases ha : ∃ id off, v = .one (.addr id off)
    · obtain ⟨id, off, rfl⟩ := ha
      rcases j0 _ (j1 _ hv id off rfl) with ⟨t, hg⟩ | hne
      · exact .inl ⟨t, by rw [x1.ev]; exact hg⟩
      · exact absurd rfl (hne id off)
    · exact .inr fun id off e => ha ⟨id, off, e⟩
  · exact call_core ho hcc hd hfr hm ht h0 k0 j0
end Go.Vi
/- Each operation is sound. -/
namespace Go.Vi
set_option linter.unusedVariables false
set_option linter.unusedSimpArgs false
variable {P : Program} {orc : Orc} {C : Ct} {nt : Nat} {σ σ' : St} {w w' : World} {Im Im' Pn : Nat → Prop} {D D' : Nat → SD} {own own' : Nat → Option Tag} {a : Act} {lg : List Ac}

/-- Nothing floats between operations. -/
theorem R.noFl (h : R C nt σ a w) : ∃ Im D own, RM C σ w Im D own ∧ RT C nt σ w Im D a ∧ ∀ b m, own b ≠ some (.fl m) := by
  obtain ⟨Im, D, own, hm, ht⟩ := h
  let own' : Nat → Option Tag := fun b => match own b with
    | some (.fl _) => none
    | t => t
  have h0 : ∀ b t, own' b = some t → own b = some t ∧ ∀ m, t ≠ .fl m := fun b t hb => by
    simp only [own'] at hb
    cases ho : own b with
    | none => rw [ho] at hb; cases hb
    | some u =>
      rw [ho] at hb
      cases u with
      | fl m => cases hb
      | box id => cases hb; exact ⟨rfl, fun m e => by cases e⟩
      | leaf id off => cases hb; exact ⟨rfl, fun m e => by cases e⟩
  refine ⟨Im, D, own', hm.reown (fun x t hx hn => ?_) (fun x t hx => ?_) (fun _ h => h) (fun _ h => .inl h), ht, fun b m hb => (h0 b _ hb).2 m rfl⟩
  · simp only [own', hx]
    cases t with
    | fl m => exact absurd rfl (hn m)
    | _ => rfl
  · obtain ⟨h1, _⟩ := h0 x t hx
    exact ⟨(hm.ow x t h1).1, t, h1⟩
theorem ok_op {cx : Cx} (hP : cx.P = P) {o : Oper} (hd : dOk C nt o.dst) (hf : ∀ d, o.dst = some d → σ.fresh d) (hR : R C nt σ a w) (h : Run (GoF P) (opM cx o) σ lg) : OpOk P C nt o a w (apps lg σ) := by
  obtain ⟨Im, D, own, hm, ht, hfl⟩ := hR.noFl
  cases ho : o.op with
  | move x => exact ok_move ho hd hm ht h
  | assign x => exact ok_assign ho hP hd hf hm ht h
  | pick c x y => exact ok_pick ho hd hm ht h
  | alloc t => exact ok_alloc ho hP hd hf hm ht h
  | box t x => exact ok_box ho hP hd hf hm ht h
  | build t ps => exact ok_build ho hP hd hm ht h
  | buildSlice t n ps => exact ok_buildSlice ho hP hd hf hm ht h
  | load t x => exact ok_load ho hP hd hf hm ht hfl h
  | store t x y => exact ok_store ho hP hm ht hfl h
  | nilCheck x => exact ok_nilCheck ho hd hm ht h
  | binOp op t x y yt => exact ok_binOp ho hP hd hm ht h
  | unOp u t x => exact ok_unOp ho hP hd hm ht h
  | convert s t x => exact ok_convert ho hP hd hm ht h
  | makeInterface t x => exact ok_makeInterface ho hP hd hm ht h
  | makeSlice t x y => exact ok_makeSlice ho hP hd hf hm ht h
  | fieldAddr t x i => exact ok_fieldAddr ho hP hd hm ht h
  | field t x i => exact ok_field ho hP hd hm ht h
  | indexAddr t x y => exact ok_indexAddr ho hP hd hm ht h
  | extract x i => exact ok_extract ho hd hm ht h
  | slice t x lo hi mx =>
    cases mx with
    | some _ => unfold opM at h; rw [ho] at h; cases h
    | none =>
      unfold opM at h
      rw [ho] at h
      dsimp only at h
      obtain ⟨v, lg1, h1, e1, k1⟩ := valM_run ht h
      rw [e1]
      cases lo with
      | none =>
        cases hi with
        | none => exact ok_slice ho hP hd hf hm ht k1 rfl rfl h1
        | some y =>
          obtain ⟨u, lg2, h2, e2, k2, _⟩ := scM_run ht h1
          rw [e2]
          exact ok_slice ho hP hd hf hm ht k1 rfl (by simp [k2]) h2
      | some z =>
        cases hi with
        | none =>
          obtain ⟨u, lg2, h2, e2, k2, _⟩ := scM_run ht h1
          rw [e2]
          exact ok_slice ho hP hd hf hm ht k1 (by simp [k2]) rfl h2
        | some y =>
          obtain ⟨u, lg2, h2, e2, k2, _⟩ := scM_run ht h1
          obtain ⟨u', lg3, h3, e3, k3, _⟩ := scM_run ht h2
          rw [e2, e3]
          exact ok_slice ho hP hd hf hm ht k1 (by simp [k2]) (by simp [k3]) h3
  | call c =>
    cases hc : c.callee with
    | invoke r n => unfold opM at h; rw [ho] at h; dsimp only at h; rw [hc] at h; cases h
    | value x =>
      cases x with
      | func g => exact ok_call ho hc hP hd hf hm ht h
      | tmp t => unfold opM at h; rw [ho] at h; dsimp only at h; rw [hc] at h; cases h
      | const v => unfold opM at h; rw [ho] at h; dsimp only at h; rw [hc] at h; cases h
      | global v => unfold opM at h; rw [ho] at h; dsimp only at h; rw [hc] at h; cases h
    | builtin b =>
      unfold opM at h
      rw [ho] at h
      dsimp only at h
      rw [hc] at h
      dsimp only at h
      unfold builtinM at h
      split at h
      · rename_i x t hx htt
        obtain ⟨v, lg1, h1, e1, k1⟩ := valM_run ht h
        rw [e1]
        exact ok_len ho hc hx htt hP hd hm ht (fix_ok k1) h1
      · rename_i x y t u hx htt
        split at h
        · rename_i e
          subst e
          obtain ⟨v, lg1, h1, e1, k1⟩ := valM_run ht h
          obtain ⟨v2, lg2, h2, e2, k2⟩ := valM_run ht h1
          rw [e1, e2]
          exact ok_append ho hc hx htt hP hd hf hm ht (fix_ok k1) (fix_ok k2) h2
        · cases h
      · exact ok_max ho hc hP hd hm ht h
      · exact ok_min ho hc hP hd hm ht h
      · cases h
  | _ => unfold opM at h; rw [ho] at h; cases h

/-! ### With its guard -/
theorem bv_some {v : V} {b : Bool} (h : bv v = some b) : v = .one (.sc (.bool b)) := by
  unfold bv at h
  split at h
  · cases h; rfl
  · cases h
theorem undef_put (hR : R C nt σ a w) {d : Option Tmp} (hd : dOk C nt d) (h : Run orc (putM d (.tup [])) σ lg) : R C nt (apps lg σ) (a.put d undef) w := by
  obtain ⟨Im, D, own, hm, ht⟩ := hR
  exact putM_ok hm ht hd h ⟨[], rfl, trivial⟩
theorem ok_full {cx : Cx} (hP : cx.P = P) {ops : Array Oper} {i : Nat} {o : Oper} (hi : ops[i]? = some o) (hd : dOk C nt o.dst) (hf : ∀ d, o.dst = some d → σ.fresh d) (hR : R C nt σ a w)
    (h : Run (GoF P) (fullM cx ops o) σ lg) {K : Act → World → Prop} {Q : Exit → Act → World → Prop} (hK : ∀ a' w', R C nt (apps lg σ) a' w' → K a' w') : wpOp P ops Q i K a w := by
  unfold wpOp
  rw [hi]
  dsimp only
  unfold fullM at h
  cases hg : o.guard with
  | none =>
    rw [hg] at h
    rw [if_pos (by simp [Region.wanted, hg])]
    exact .inl (ok_op hP hd hf hR h K Q hK)
  | some g =>
    obtain ⟨j, want⟩ := g
    rw [hg] at h
    dsimp only at h
    cases ht : (ops[j]?).bind (·.dst) with
    | none => rw [ht] at h; cases h
    | some t =>
      rw [ht] at h
      cases h with
      | rd h =>
        rename_i lg
        dsimp only at h
        have hun : ∀ {l}, Run (GoF P) (putM o.dst (.tup [])) σ l → R C nt (apps l σ) (a.put o.dst undef) w := fun h => undef_put hR hd h
        have htmp : ∀ u, σ.get (2 * t) = some u → ∃ cv Im D, a.tmps[t]? = some cv ∧ VOk w Im C.Pn σ D u cv := fun u hu => by
          obtain ⟨Im, D, own, hm, htt⟩ := hR
          obtain ⟨cv, c1, c2⟩ := htt.temp t u hu
          exact ⟨cv, Im, D, c1, c2⟩
        generalize hv : σ.get (2 * t) = q at h
        split at h
        · rename_i b
          obtain ⟨cv, Im, D, c1, c2⟩ := htmp _ hv
          have hcv : cv = .bool b := c2.1
          subst hcv
          have hy : yielded ops a.tmps j = some b := by simp [yielded, ht, c1]
          cases h with
          | ite h =>
            have hw : Region.wanted o (yielded ops a.tmps) = (b == want) := by simp [Region.wanted, hg, hy]
            rw [hw]
            cases b <;> cases want
            · exact .inl (ok_op hP hd hf hR h K Q hK)
            · exact hK _ _ (hun (l := lg) h)
            · exact hK _ _ (hun (l := lg) h)
            · exact .inl (ok_op hP hd hf hR h K Q hK)
        · obtain ⟨cv, Im, D, c1, vs, c2, c3⟩ := htmp _ hv
          have hvs : vs = [] := List.eq_nil_of_length_eq_zero c3.length.symm
          subst hvs
          subst c2
          have hy : yielded ops a.tmps j = none := by simp [yielded, ht, c1]
          have hw : Region.wanted o (yielded ops a.tmps) = false := by simp [Region.wanted, hg, hy]
          rw [hw]
          exact hK _ _ (hun (l := lg) h)
        · cases h
end Go.Vi
/- Regions. -/
namespace Go.Vi
set_option linter.unusedVariables false
set_option linter.unusedSimpArgs false
variable {P : Program} {orc : Orc} {C : Ct} {nt : Nat} {σ σ' σf τ : St} {w w' : World} {a : Act} {lg : List Ac} {cx : Cx} {ops : Array Oper} {draw : Bool}

/-! ### What the check says -/
theorem anyIn_iff {xs ys : List Nat} : anyIn xs ys = true ↔ ∃ x ∈ xs, x ∈ ys := by
  simp [anyIn]
theorem anyIn_congr {xs xs' ys ys' : List Nat} (h : ∀ x, x ∈ xs ↔ x ∈ xs') (g : ∀ x, x ∈ ys ↔ x ∈ ys') : anyIn xs ys = anyIn xs' ys' := by
  have : anyIn xs ys = true ↔ anyIn xs' ys' = true := by
    rw [anyIn_iff, anyIn_iff]
    exact ⟨fun ⟨x, h1, h2⟩ => ⟨x, (h x).1 h1, (g x).1 h2⟩, fun ⟨x, h1, h2⟩ => ⟨x, (h x).2 h1, (g x).2 h2⟩⟩
  cases h1 : anyIn xs ys <;> cases h2 : anyIn xs' ys' <;> simp_all
theorem mem_flatMap_rev {α β : Type} (f : α → List β) (l : List α) (x : β) : x ∈ l.reverse.flatMap f ↔ x ∈ l.flatMap f := by
  simp [List.mem_flatMap]
theorem comm_rev (l k : List Ac) : comm (footOf l.reverse) (footOf k.reverse) = comm (footOf l) (footOf k) := by
  have hf : ∀ l : List Ac, ∀ x, x ∈ fkeysOf l.reverse ↔ x ∈ fkeysOf l := fun l x => mem_flatMap_rev _ l x
  have hs : ∀ l : List Ac, ∀ x, x ∈ skeysOf l.reverse ↔ x ∈ skeysOf l := fun l x => mem_flatMap_rev _ l x
  have hw : ∀ l : List Ac, ∀ x, x ∈ wkeysOf l.reverse ↔ x ∈ wkeysOf l := fun l x => mem_flatMap_rev _ l x
  have hu : ∀ l : List Ac, ∀ x, x ∈ ukeysOf l.reverse ↔ x ∈ ukeysOf l := fun l x => mem_flatMap_rev _ l x
  have hr : ∀ l : List Ac, ∀ x, x ∈ arefs l.reverse ↔ x ∈ arefs l := fun l x => mem_flatMap_rev _ l x
  have hn : ∀ l : List Ac, ∀ x, x ∈ nkeysOf l.reverse ↔ x ∈ nkeysOf l := fun l x => mem_flatMap_rev _ l x
  have ho : ∀ l : List Ac, ∀ x, x ∈ oldsOf l.reverse ↔ x ∈ oldsOf l := fun l x => mem_flatMap_rev _ l x
  simp only [comm, footOf, List.any_reverse, anyIn_congr (hw l) (hf k), anyIn_congr (hw l) (hs k), anyIn_congr (hu l) (hf k), anyIn_congr (hw k) (hf l), anyIn_congr (hw k) (hs l), anyIn_congr (hu k) (hf l), anyIn_congr (hn l) (hr k), anyIn_congr (hn l) (ho k), anyIn_congr (hn k) (hr l), anyIn_congr (hn k) (ho l)]

structure It where
  i : Nat
  b : Nat
  o : Oper
  l : List Ac
def Ord (draw : Bool) (x y : It) : Prop :=
  x.i < y.i ∧ (∀ d, y.o.dst = some d → d ∉ arefs x.l) ∧ (draw = true → y.b.testBit x.i = true ∨ (comm (footOf x.l) (footOf y.l) = true ∧ ∀ d, x.o.dst = some d → d ∉ arefs y.l))
def itsOf : Nat → List Nat → List Oper → List (List Ac) → List It
  | i, b :: bs, o :: os, l :: ls => ⟨i, b, o, l⟩ :: itsOf (i + 1) bs os ls
  | _, _, _, _ => []
def It.q (x : It) : Nat × Nat × List Nat × Foot := (x.i, x.b, dstL x.o, footOf x.l.reverse)
theorem zip4_its : ∀ (os : List Oper) (i : Nat) (bs : List Nat) (ls : List (List Ac)), zip4 i bs os (ls.map List.reverse) = (itsOf i bs os ls).map It.q
  | [], i, bs, ls => by cases bs <;> cases ls <;> rfl
  | o :: os, i, [], ls => by cases ls <;> rfl
  | o :: os, i, b :: bs, [] => rfl
  | o :: os, i, b :: bs, l :: ls => by
    simp only [List.map_cons, zip4, itsOf]
    rw [zip4_its os (i + 1) bs ls]
    rfl
theorem mem_itsOf : ∀ (os : List Oper) (i : Nat) (bs : List Nat) (ls : List (List Ac)) (x : It), x ∈ itsOf i bs os ls → ∃ k, x.i = i + k ∧ os[k]? = some x.o ∧ bs[k]? = some x.b ∧ ls[k]? = some x.l
  | [], i, bs, ls, x, h => by cases bs <;> cases ls <;> cases h
  | o :: os, i, [], ls, x, h => by cases ls <;> cases h
  | o :: os, i, b :: bs, [], x, h => by cases h
  | o :: os, i, b :: bs, l :: ls, x, h => by
    rcases List.mem_cons.1 h with rfl | h
    · exact ⟨0, rfl, rfl, rfl, rfl⟩
    · obtain ⟨k, h1, h2, h3, h4⟩ := mem_itsOf os (i + 1) bs ls x h
      exact ⟨k + 1, by omega, by simpa using h2, by simpa using h3, by simpa using h4⟩
theorem itsOf_ix : ∀ (os : List Oper) (i : Nat) (bs : List Nat) (ls : List (List Ac)), bs.length = os.length → ls.length = os.length → (itsOf i bs os ls).map (·.i) = List.range' i os.length
  | [], i, [], [], _, _ => rfl
  | o :: os, i, b :: bs, l :: ls, h, h' => by
    simp only [itsOf, List.map_cons, List.length_cons, List.range'_succ]
    rw [itsOf_ix os (i + 1) bs ls (by simpa using h) (by simpa using h')]
  | [], i, _ :: _, _, h, _ => by simp at h
  | [], i, _, _ :: _, _, h => by simp at h
  | _ :: _, i, [], _, h, _ => by simp at h
  | _ :: _, i, _, [], _, h => by simp at h
theorem pairOk_all {draw : Bool} {i : Nat} {d : List Nat} {f : Foot} : ∀ {r : List (Nat × Nat × List Nat × Foot)}, pairOk draw i d f r = true → ∀ q ∈ r, anyIn q.2.2.1 f.refs = false ∧ (draw = true → q.2.1.testBit i = true ∨ (comm f q.2.2.2 = true ∧ anyIn d q.2.2.2.refs = false))
  | [], _, q, hq => by cases hq
  | (j, before, e, b) :: r, h, q, hq => by
    simp only [pairOk, Bool.and_eq_true, Bool.not_eq_true', Bool.or_eq_true] at h
    rcases List.mem_cons.1 hq with rfl | hq
    · refine ⟨h.1.1, fun hd => ?_⟩
      rcases h.1.2 with (h' | h') | h'
      · rw [hd] at h'; cases h'
      · exact .inl h'
      · exact .inr h'
    · exact pairOk_all h.2 q hq
theorem ords_of {draw : Bool} : ∀ {xs : List It}, pairsOk draw (xs.map It.q) = true → xs.Pairwise (fun x y => x.i < y.i) → xs.Pairwise (Ord draw)
  | [], _, _ => List.Pairwise.nil
  | x :: xs, h, hi => by
    simp only [List.map_cons, It.q, pairsOk, Bool.and_eq_true] at h
    obtain ⟨hi1, hi2⟩ := List.pairwise_cons.1 hi
    refine List.pairwise_cons.2 ⟨fun y hy => ?_, ords_of h.2 hi2⟩
    obtain ⟨h1, h2⟩ := pairOk_all h.1 y.q (List.mem_map.2 ⟨y, hy, rfl⟩)
    refine ⟨hi1 y hy, fun d hd hr => ?_, fun hdr => (h2 hdr).imp (fun h => h) fun h => ⟨?_, fun d hd hr => ?_⟩⟩
    · refine anyIn_false h1 d (by simp [It.q, dstL, hd]) ?_
      simp only [footOf, arefs] at hr ⊢
      exact (mem_flatMap_rev _ _ _).2 hr
    · rw [← comm_rev]; exact h.1
    · refine anyIn_false h.2 d (by simp [dstL, hd]) ?_
      simp only [It.q, footOf, arefs] at hr ⊢
      exact (mem_flatMap_rev _ _ _).2 hr
theorem bitsOf_test {acc : List Nat} : ∀ {ons : List Nat} {j : Nat}, (bitsOf acc ons).testBit j = true ↔ ∃ k ∈ ons, j = k ∨ (acc.getD k 0).testBit j = true
  | [], j => by simp [bitsOf]
  | k :: r, j => by
    simp only [bitsOf, Nat.testBit_or, Bool.or_eq_true, bitsOf_test (ons := r), List.mem_cons, exists_eq_or_imp, Nat.testBit_two_pow, decide_eq_true_eq]
    constructor
    · rintro ((h | h) | h)
      · exact .inl (.inl h.symm)
      · exact .inl (.inr h)
      · exact .inr h
    · rintro ((h | h) | h)
      · exact .inl (.inl h.symm)
      · exact .inl (.inr h)
      · exact .inr h
theorem clos_spec : ∀ (r : List Oper) (i : Nat) (acc : List Nat), (∃ t, clos i r acc = acc ++ t ∧ t.length = r.length) ∧
    ∀ (k : Nat) o, r[k]? = some o → (clos i r acc)[acc.length + k]? = some (bitsOf ((clos i r acc).take (acc.length + k)) (onsOf o))
  | [], i, acc => ⟨⟨[], by simp [clos], rfl⟩, fun k o h => by simp at h⟩
  | o :: r, i, acc => by
    obtain ⟨⟨t, h1, h2⟩, h3⟩ := clos_spec r (i + 1) (acc ++ [bitsOf acc (onsOf o)])
    simp only [clos]
    refine ⟨⟨bitsOf acc (onsOf o) :: t, by rw [h1]; simp, by simp [h2]⟩, fun k o' hk => ?_⟩
    cases k with
    | zero =>
      simp at hk
      subst hk
      rw [h1]
      simp
    | succ k =>
      have := h3 k o' (by simpa using hk)
      rw [List.length_append] at this
      simp only [List.length_cons, List.length_nil] at this
      rw [show acc.length + (k + 1) = acc.length + (0 + 1) + k by omega]
      exact this
theorem onsOk_spec : ∀ (r : List Oper) (i : Nat), onsOk i r = true → ∀ (k : Nat) o, r[k]? = some o → ∀ j ∈ onsOf o, j < i + k
  | [], i, _, k, o, h => by simp at h
  | o :: r, i, h, k, o', hk => by
    simp only [onsOk, Bool.and_eq_true, List.all_eq_true, decide_eq_true_eq] at h
    cases k with
    | zero => simp at hk; subst hk; exact fun j hj => h.1 j hj
    | succ k => exact fun j hj => by have := onsOk_spec r (i + 1) h.2 k o' (by simpa using hk) j hj; omega

/-! ### Runs of operations -/
def Chain (orc : Orc) (cx : Cx) (ops : Array Oper) : List It → St → St → Prop
  | [], σ, σf => σ.Sim σf
  | x :: r, σ, σf => Run orc (fullM cx ops x.o) σ x.l ∧ Chain orc cx ops r (apps x.l σ) σf
theorem Chain.sim : ∀ {xs : List It} {σ τ : St}, Chain orc cx ops xs σ σf → σ.Sim τ → σ.Asc → τ.Asc → Chain orc cx ops xs τ σf
  | [], σ, τ, h, hs, _, _ => hs.symm.trans h
  | x :: r, σ, τ, h, hs, h1, h2 => ⟨h.1.sim hs h1 h2, Chain.sim h.2 (apps_sim x.l hs h1 h2) (apps_asc _ h1) (apps_asc _ h2)⟩
theorem Chain.front {it : It} {post : List It} : ∀ {pre : List It} {σ : St}, Chain orc cx ops (pre ++ it :: post) σ σf → σ.Asc → (∀ x ∈ pre, comm (footOf x.l) (footOf it.l) = true) →
    Run orc (fullM cx ops it.o) σ it.l ∧ Chain orc cx ops (pre ++ post) (apps it.l σ) σf
  | [], σ, h, _, _ => h
  | x :: pre, σ, h, ha, hc => by
    obtain ⟨h1, h2⟩ := h
    obtain ⟨h3, h4⟩ := Chain.front h2 (apps_asc _ ha) fun y hy => hc y (List.mem_cons_of_mem _ hy)
    obtain ⟨s1, s2, s3⟩ := Run.swap (hc x List.mem_cons_self) h1 h3
    exact ⟨s1, s2, h4.sim s3 (apps_asc _ (apps_asc _ ha)) (apps_asc _ (apps_asc _ ha))⟩
theorem opsK_run {orcK : {β : Type} → FuncId → St → (St → Option β) → Option β} (ho : OrcOk orcK orc) {β : Type} {K : St → List (List Ac) → Option β} {r : β} :
    ∀ (os : List Oper) {σ : St} {acc : List (List Ac)} (i : Nat) (bs : List Nat), σ.Asc → bs.length = os.length → opsK orcK cx ops os σ acc K = some r →
      ∃ ls σf, ls.length = os.length ∧ Chain orc cx ops (itsOf i bs os ls) σ σf ∧ σf.Asc ∧ K σf ((ls.map List.reverse).reverse ++ acc) = some r
  | [], σ, acc, i, [], ha, _, h => ⟨[], σ, rfl, St.Sim.refl σ, ha, h⟩
  | [], _, _, _, _ :: _, _, hb, _ => by simp at hb
  | _ :: _, _, _, _, [], _, hb, _ => by simp at hb
  | o :: os, σ, acc, i, b :: bs, ha, hb, h => by
    have go : ∀ {τ : St}, σ.Sim τ → τ.Asc → (fullM cx ops o).runK orcK τ [] (fun σ' l => opsK orcK cx ops os σ' (l :: acc) K) = some r →
        ∃ ls σf, ls.length = (o :: os).length ∧ Chain orc cx ops (itsOf i (b :: bs) (o :: os) ls) σ σf ∧ σf.Asc ∧ K σf ((ls.map List.reverse).reverse ++ acc) = some r := by
      intro τ hs hta hr
      obtain ⟨l, h1, h2⟩ := runK_sound ho _ _ _ _ _ hr
      obtain ⟨ls, σf, k1, k2, k3, k4⟩ := opsK_run ho os (i + 1) bs (apps_asc l hta) (by simpa using hb) h2
      refine ⟨l :: ls, σf, by simp [k1], ⟨h1.sim hs.symm hta ha, k2.sim (apps_sim l hs.symm hta ha) (apps_asc _ hta) (apps_asc _ ha)⟩, k3, ?_⟩
      simpa using k4
    simp only [opsK] at h
    cases hg : o.guard with
    | none =>
      rw [hg] at h
      have hfull : fullM cx ops o = opM cx o := by simp [fullM, hg]
      exact go (St.Sim.refl σ) ha (by rw [hfull]; exact h)
    | some g =>
      obtain ⟨j, want⟩ := g
      rw [hg] at h
      dsimp only at h
      cases ht : (ops[j]?).bind (·.dst) with
      | none => rw [ht] at h; cases h
      | some t =>
        rw [ht] at h
        dsimp only at h
        split at h
        · rename_i g hgt
          have hs : σ.Sim (σ.put (2 * t) (.one (.sc (.bool g)))) := fun k => by
            have := St.get_set σ k (2 * t) (some (.one (.sc (.bool g))))
            show _ = (σ.set (2 * t) (some (.one (.sc (.bool g))))).get k
            rw [this]
            split
            · rename_i e; rw [e, hgt]
            · rfl
          cases g with
          | true => exact go hs (ha.put _ _) h
          | false => exact go hs (ha.put _ _) h
        · exact go (St.Sim.refl σ) ha h
        · cases h

/-! ### The region -/
theorem bears_at (l : List Ac) : ∀ {σ : St} {id k : Nat} {v : V}, σ.Asc → (apps l σ).get k = some v → id ∈ v.refs → (∃ u, σ.get k = some u ∧ id ∈ u.refs) ∨ id ∈ arefs l := by
  induction l with
  | nil => exact fun _ h hv => .inl ⟨_, h, hv⟩
  | cons a l ih =>
    intro σ id k v ha h hv
    rcases ih (a.app_asc ha) h hv with h | h
    · obtain ⟨u, hk, hv⟩ := h
      cases a with
      | rd _ => exact .inl ⟨u, hk, hv⟩
      | wr j u' _ =>
        have hk' : (σ.set j u').get k = some u := hk
        rw [St.get_set] at hk'
        split at hk'
        · subst hk'
          exact .inr (by simp [arefs, Ac.refs, hv])
        · exact .inl ⟨u, hk', hv⟩
      | rs _ => exact .inl ⟨u, hk, hv⟩
      | nk _ => exact .inl ⟨u, hk, hv⟩
      | up j u' =>
        have hk' : (σ.set j (some u')).get k = some u := hk
        rw [St.get_set] at hk'
        split at hk'
        · cases hk'
          exact .inr (by simp [arefs, Ac.refs, hv])
        · exact .inl ⟨u, hk', hv⟩
      | kill i o =>
        have hk' : (σ.kill i o).get k = some u := hk
        rw [St.kill, St.get_filter ha] at hk'
        exact .inl ⟨u, (Option.filter_eq_some_iff.1 hk').1, hv⟩
    · exact .inr (by simp [arefs] at h ⊢; exact .inr h)
structure Inv (P : Program) (C : Ct) (nt : Nat) (cx : Cx) (ops : Array Oper) (draw : Bool) (rem : List It) (σ σf : St) : Prop where
  asc : σ.Asc
  chain : Chain (GoF P) cx ops rem σ σf
  ords : rem.Pairwise (Ord draw)
  at_ : ∀ x ∈ rem, ops[x.i]? = some x.o ∧ dOk C nt x.o.dst
  free : ∀ x ∈ rem, ∀ d, x.o.dst = some d → σ.fresh d
theorem Inv.step {pre post : List It} {it : It} (h : Inv P C nt cx ops draw (pre ++ it :: post) σ σf)
    (hpre : ∀ x ∈ pre, comm (footOf x.l) (footOf it.l) = true ∧ ∀ d, x.o.dst = some d → d ∉ arefs it.l) :
    Run (GoF P) (fullM cx ops it.o) σ it.l ∧ Inv P C nt cx ops draw (pre ++ post) (apps it.l σ) σf := by
  obtain ⟨h1, h2⟩ := h.chain.front h.asc fun x hx => (hpre x hx).1
  have hsub : (pre ++ post).Sublist (pre ++ it :: post) := List.Sublist.append (List.Sublist.refl _) (List.sublist_cons_self _ _)
  have hmem : ∀ x ∈ pre ++ post, x ∈ pre ++ it :: post := fun x hx => hsub.subset hx
  refine ⟨h1, apps_asc _ h.asc, h2, h.ords.sublist hsub, fun x hx => h.at_ x (hmem x hx), fun x hx d hd t u hg hb => ?_⟩
  rcases bears_at it.l h.asc hg hb with ⟨u', hg', hb⟩ | hb
  · exact h.free x (hmem x hx) d hd t u' hg' hb
  · rcases List.mem_append.1 hx with hx | hx
    · exact (hpre x hx).2 d hd hb
    · have := (List.pairwise_append.1 h.ords).2.1
      exact ((List.pairwise_cons.1 this).1 x hx).2.1 d hd hb
theorem seq_ok (hP : cx.P = P) {Q : Exit → Act → World → Prop} (hQ : ∀ a' w', R C nt σf a' w' → Q .normal a' w') : ∀ (rem : List It) {σ : St} {a : Act} {w : World}, σf.Asc → Inv P C nt cx ops false rem σ σf → R C nt σ a w → wpOps P ops Q (rem.map (·.i)) a w
  | [], σ, a, w, hf, h, hR => hQ a w (hR.sim hf h.chain)
  | it :: rem, σ, a, w, hf, h, hR => by
    obtain ⟨h1, h2⟩ := Inv.step (pre := []) h fun x hx => by cases hx
    obtain ⟨h3, h4⟩ := h.at_ it List.mem_cons_self
    simp only [List.map_cons]
    rw [wpOps_cons]
    exact ok_full hP h3 h4 (fun d hd => h.free it List.mem_cons_self d hd) hR h1 fun a' w' hR' => seq_ok hP hQ rem hf h2 hR'
end Go.Vi
/- Regions whose operations may stand in any order; a region's end. -/
namespace Go.Vi
set_option linter.unusedVariables false
set_option linter.unusedSimpArgs false
variable {nt' : Nat} {P : Program} {orc : Orc} {C : Ct} {nt : Nat} {σ σ' σf τ : St} {w w' : World} {a : Act} {lg : List Ac} {cx : Cx} {ops : Array Oper} {draw : Bool}

theorem getD_both {ls : Array Bool} {j : Nat} (h : j < ls.size) (b c : Bool) : ls.getD j b = ls.getD j c := by
  simp [Array.getD, h]
theorem getD_set {ls : Array Bool} {i j : Nat} (hi : i < ls.size) (c : Bool) : (ls.setIfInBounds i true).getD j c = if j = i then true else ls.getD j c := by
  rw [Array.getD_eq_getD_getElem?, Array.getD_eq_getD_getElem?]
  by_cases h : j = i
  · subst h
    simp [hi]
  · rw [Array.getElem?_setIfInBounds_ne (Ne.symm h), if_neg h]
theorem mem_ready {ls : Array Bool} {i : Nat} : i ∈ Region.ready .any ops ls ↔ i < ops.size ∧ ls.getD i true = false ∧ ∃ o, ops[i]? = some o ∧ ∀ k ∈ onsOf o, ls.getD k false = true := by
  simp only [Region.ready, List.mem_filter, List.mem_range, Bool.and_eq_true, Bool.not_eq_true']
  refine and_congr_right fun hi => and_congr_right fun _ => ?_
  cases ho : ops[i]? with
  | none => simp
  | some o =>
    simp only [Option.map_some, Option.getD_some, Array.all_eq_true', Option.some.injEq, exists_eq_left', onsOf, List.mem_map, List.mem_filter, Array.mem_toList_iff, Bool.or_eq_true, Bool.not_eq_true']
    constructor
    · rintro h k ⟨e, ⟨h1, h2⟩, rfl⟩
      rcases h e h1 with h | h
      · rw [h2] at h; cases h
      · exact h
    · intro h e he
      cases hb : Region.binds .any e with
      | false => exact .inl rfl
      | true => exact .inr (h e.on ⟨e, ⟨he, hb⟩, rfl⟩)
theorem any_ok (hP : cx.P = P) {Q : Exit → Act → World → Prop} (hQ : ∀ a' w', R C nt σf a' w' → Q .normal a' w') (hf : σf.Asc) {Bf : Nat → Nat}
    (hbits : ∀ i o, ops[i]? = some o → ∀ j, (Bf i).testBit j = true → ∃ k ∈ onsOf o, j = k ∨ (Bf k).testBit j = true) (hons : ∀ i o, ops[i]? = some o → ∀ k ∈ onsOf o, k < i) :
    ∀ (fuel : Nat) (rem : List It) (listed : Array Bool) {σ : St} {a : Act} {w : World}, rem.length = fuel → (∀ x ∈ rem, x.b = Bf x.i) → listed.size = ops.size → (∀ j, j < ops.size → (listed.getD j false = false ↔ ∃ x ∈ rem, x.i = j)) →
      (∀ k, k < ops.size → listed.getD k false = true → ∀ j, (Bf k).testBit j = true → listed.getD j false = true) → Inv P C nt cx ops true rem σ σf → R C nt σ a w → wpAny P .any ops Q fuel listed a w := by
  intro fuel
  induction fuel with
  | zero =>
    intro rem listed σ a w hlen hb hsz hl hd h hR
    have : rem = [] := List.eq_nil_of_length_eq_zero hlen
    subst this
    refine ⟨List.eq_nil_iff_forall_not_mem.2 fun i hi => ?_, hQ a w (hR.sim hf h.chain)⟩
    obtain ⟨h1, h2, _⟩ := mem_ready.1 hi
    rw [getD_both (by omega) true false] at h2
    obtain ⟨x, hx, _⟩ := (hl i h1).1 h2
    cases hx
  | succ fuel ih =>
    intro rem listed σ a w hlen hb hsz hl hd h hR
    have hlt : ∀ x ∈ rem, x.i < ops.size := fun x hx => (Array.getElem?_eq_some_iff.1 (h.at_ x hx).1).1
    have hun : ∀ x ∈ rem, listed.getD x.i false = false := fun x hx => (hl x.i (hlt x hx)).2 ⟨x, hx, rfl⟩
    refine ⟨fun h0 => ?_, fun i hi => ?_⟩
    · exfalso
      cases rem with
      | nil => cases hlen
      | cons x rem =>
        have hx := h.at_ x List.mem_cons_self
        have hxl := hlt x List.mem_cons_self
        have : x.i ∈ Region.ready .any ops listed := by
          refine mem_ready.2 ⟨hxl, by rw [getD_both (by omega) true false]; exact hun x List.mem_cons_self, x.o, hx.1, fun k hk => ?_⟩
          have hkx := hons x.i x.o hx.1 k hk
          cases hlk : listed.getD k false with
          | true => rfl
          | false =>
            obtain ⟨y, hy, e⟩ := (hl k (by omega)).1 hlk
            rcases List.mem_cons.1 hy with rfl | hy
            · omega
            · have := ((List.pairwise_cons.1 h.ords).1 y hy).1
              omega
        rw [h0] at this
        cases this
    · obtain ⟨h1, h2, o, h3, h4⟩ := mem_ready.1 hi
      rw [getD_both (by omega) true false] at h2
      obtain ⟨x, hx, hxi⟩ := (hl i h1).1 h2
      subst hxi
      have hxo : o = x.o := by have := (h.at_ x hx).1; rw [h3] at this; cases this; rfl
      subst hxo
      have hclos : ∀ j, (Bf x.i).testBit j = true → listed.getD j false = true := fun j hj => by
        obtain ⟨k, hk, h5⟩ := hbits x.i x.o h3 j hj
        rcases h5 with rfl | h5
        · exact h4 j hk
        · exact hd k (by have := hons x.i x.o h3 k hk; omega) (h4 k hk) j h5
      obtain ⟨pre, post, e⟩ := List.append_of_mem hx
      subst e
      have hpw := List.pairwise_append.1 h.ords
      have hne : ∀ y ∈ pre ++ post, y.i ≠ x.i := fun y hy => by
        rcases List.mem_append.1 hy with hy | hy
        · have := (hpw.2.2 y hy x List.mem_cons_self).1; omega
        · have := ((List.pairwise_cons.1 hpw.2.1).1 y hy).1; omega
      have hsub : ∀ y ∈ pre ++ post, y ∈ pre ++ x :: post := fun y hy => by
        rcases List.mem_append.1 hy with hy | hy
        · exact List.mem_append_left _ hy
        · exact List.mem_append_right _ (List.mem_cons_of_mem _ hy)
      obtain ⟨g1, g2⟩ := h.step fun y hy => by
        have ho := (hpw.2.2 y hy x List.mem_cons_self).2.2 rfl
        rcases ho with ho | ho
        · rw [hb x hx] at ho
          have g := hclos y.i ho
          rw [hun y (List.mem_append_left _ hy)] at g
          cases g
        · exact ho
      refine ok_full hP h3 (h.at_ x hx).2 (fun d hd => h.free x hx d hd) hR g1 fun a' w' hR' => ?_
      refine ih (pre ++ post) (listed.setIfInBounds x.i true) (by simp at hlen ⊢; omega) (fun y hy => hb y (hsub y hy)) (by simpa using hsz) (fun j hj => ?_) (fun k hk hlk j hj => ?_) g2 hR'
      · rw [getD_set (by omega)]
        constructor
        · intro hj'
          split at hj'
          · cases hj'
          · rename_i hne'
            obtain ⟨y, hy, e⟩ := (hl j hj).1 hj'
            refine ⟨y, ?_, e⟩
            rcases List.mem_append.1 hy with hy | hy
            · exact List.mem_append_left _ hy
            · rcases List.mem_cons.1 hy with rfl | hy
              · exact absurd e.symm hne'
              · exact List.mem_append_right _ hy
        · rintro ⟨y, hy, rfl⟩
          rw [if_neg (hne y hy)]
          exact hun y (hsub y hy)
      · rw [getD_set (by omega)] at hlk ⊢
        split
        · rfl
        · split at hlk
          · rename_i e; subst e; exact hclos j hj
          · exact hd k hk hlk j hj

/-! ### A region, run -/
theorem mem_dstsOf {os : List Oper} {d : Nat} : d ∈ dstsOf os ↔ ∃ o ∈ os, o.dst = some d := by
  simp only [dstsOf, List.mem_flatMap]
  constructor
  · rintro ⟨o, h1, h2⟩
    refine ⟨o, h1, ?_⟩
    unfold dstL at h2
    split at h2
    · rename_i d' e; simp at h2; rw [h2]; exact e
    · cases h2
  · rintro ⟨o, h1, h2⟩
    exact ⟨o, h1, by simp [dstL, h2]⟩
theorem purge_get (ha : σ.Asc) {D : List Nat} {k : Nat} {v : V} (h : (σ.purge D).get k = some v) : σ.get k = some v ∧ (if k % 2 = 0 then anyIn v.refs D = false else ¬ k / 2 ∈ D) := by
  rw [St.purge, St.get_filter ha] at h
  obtain ⟨h1, h2⟩ := Option.filter_eq_some_iff.1 h
  refine ⟨h1, ?_⟩
  dsimp only at h2
  split
  · rename_i e; rw [if_pos e] at h2; simpa using h2
  · rename_i e; rw [if_neg e] at h2; simpa using h2
theorem St.clean_get (ha : σ.Asc) {L : Option (List Nat)} {k : Nat} {v : V} (h : (σ.clean L).get k = some v) : σ.get k = some v := by
  cases L with
  | none => exact h
  | some ts =>
    simp only [St.clean, St.gc, St.keep] at h
    rw [St.get_filter (ha.filter _)] at h
    obtain ⟨h1, _⟩ := Option.filter_eq_some_iff.1 h
    rw [St.get_filter ha] at h1
    exact (Option.filter_eq_some_iff.1 h1).1
theorem St.clean_asc (ha : σ.Asc) (L : Option (List Nat)) : (σ.clean L).Asc := by
  cases L with
  | none => exact ha
  | some ts => exact (ha.filter _).filter _
/-! ### Objects that are named otherwise -/
theorem St.get_map (f : V → V) : ∀ (σ : St) (k : Nat), St.get (σ.map fun p => (p.1, f p.2)) k = (σ.get k).map f
  | [], k => rfl
  | (j, u) :: r, k => by
    simp only [List.map_cons, St.get]
    split
    · rfl
    · exact St.get_map f r k
theorem St.asc_map (f : V → V) {σ : St} (h : σ.Asc) : St.Asc (σ.map fun p => (p.1, f p.2)) := List.pairwise_map.2 h
theorem tempRefs_mem : ∀ {σ : St} {t : Nat} {u : V} {id : Nat}, σ.get (2 * t) = some u → id ∈ u.refs → id ∈ tempRefs σ
  | [], t, u, id, h, _ => by cases h
  | (j, v) :: r, t, u, id, h, hi => by
    simp only [St.get] at h
    simp only [tempRefs]
    split at h
    · rename_i e
      cases h
      rw [if_pos (by omega)]
      exact List.mem_append_left _ hi
    · have := tempRefs_mem (σ := r) h hi
      split
      · exact List.mem_append_right _ this
      · exact this
theorem St.ren_get {a b : Nat} {s : V} (hs : σ.get (2 * a + 1) = some s) (hab : a ≠ b) (k : Nat) :
    (σ.ren a b).get k = if k = 2 * b + 1 then some s else if k = 2 * a + 1 then none else (σ.get k).map (V.ren a b) := by
  unfold St.ren
  rw [hs]
  have h1 := St.get_set ((σ.del (2 * a + 1)).map fun p => (p.1, p.2.ren a b)) k (2 * b + 1) (some s)
  simp only [St.set] at h1
  dsimp only
  rw [h1]
  split
  · rfl
  · rw [St.get_map (V.ren a b)]
    have h2 := St.get_set σ k (2 * a + 1) none
    simp only [St.set] at h2
    rw [h2]
    split
    · rfl
    · rfl
theorem St.ren_asc {a b : Nat} (h : σ.Asc) : (σ.ren a b).Asc := by
  unfold St.ren
  split
  · exact St.Asc.put (St.asc_map _ (h.del _)) _ _
  · exact h
def renTag (a b : Nat) : Tag → Tag
  | .box id => .box (if id = a then b else id)
  | .leaf id off => .leaf (if id = a then b else id) off
  | t => t
theorem TLeaf.ren {Im Pn : Nat → Prop} {D : Nat → SD} {c b : Nat} {s : V} (hs : σ.get (2 * c + 1) = some s) (hcb : c ≠ b) (hss : ∀ virt ls, s.ren c b = .slot virt ls → s = .slot virt ls) {l : Lf} (hb : b ∉ l.refs) {v : Value} (h : TLeaf w Im Pn σ D l v) :
    TLeaf w Im Pn (σ.ren c b) (fun j => if j = b then D c else D j) (l.ren c b) v := by
  have hsl : ∀ id virt ls, id ≠ b → (σ.ren c b).get (2 * (if id = c then b else id) + 1) = some (.slot virt ls) → σ.get (2 * id + 1) = some (.slot virt ls) := fun id virt ls hid hg => by
    rw [St.ren_get hs hcb] at hg
    by_cases hc : id = c
    · subst hc
      rw [if_pos rfl, if_pos rfl] at hg
      rw [hs]; exact hg
    · rw [if_neg hc, if_neg (by omega), if_neg (by omega)] at hg
      obtain ⟨u, h1, h2⟩ := Option.map_eq_some_iff.1 hg
      cases u with
      | slot virt' ls' => cases h2; exact h1
      | _ => cases h2
  have hD : ∀ id, id ≠ b → (fun j => if j = b then D c else D j) (if id = c then b else id) = D id := fun id hid => by
    by_cases hc : id = c
    · subst hc; simp
    · simp [hc, hid]
  cases l with
  | view id off =>
    have hid : id ≠ b := fun e => hb (by simp [Lf.refs, e])
    intro virt ls m e k xs hg hl hp
    rw [hD id hid]
    exact h virt ls m e k xs (hsl id virt ls hid hg) hl hp
  | addr id off =>
    have hid : id ≠ b := fun e => hb (by simp [Lf.refs, e])
    intro ls hg
    rw [hD id hid]
    exact h ls (hsl id false ls hid hg)
  | eaddr id off i o =>
    have hid : id ≠ b := fun e => hb (by simp [Lf.refs, e])
    intro virt ls m e k xs hg hl hp hi
    rw [hD id hid]
    exact h virt ls m e k xs (hsl id virt ls hid hg) hl hp hi
  | lst m e k xs => cases m <;> exact h
  | sc u => exact h
  | nil e k => exact h
  | faddr k x o => exact h
  | undef => exact h
theorem mem_refsL {l : Lf} : ∀ {ls : List Lf}, l ∈ ls → ∀ {id : Nat}, id ∈ l.refs → id ∈ refsL ls
  | x :: r, h, id, hi => by
    simp only [refsL, List.mem_append]
    rcases List.mem_cons.1 h with rfl | h
    · exact .inl hi
    · exact .inr (mem_refsL h hi)
theorem All2.map_left {α β γ : Type} {p : α → β → Prop} {q : γ → β → Prop} {f : α → γ} : ∀ {xs : List α} {ys : List β}, (∀ x ∈ xs, ∀ y, p x y → q (f x) y) → All2 p xs ys → All2 q (xs.map f) ys
  | [], [], _, _ => trivial
  | x :: xs, y :: ys, hpq, h => ⟨hpq x List.mem_cons_self _ h.1, All2.map_left (fun z hz => hpq z (List.mem_cons_of_mem _ hz)) h.2⟩
  | [], _ :: _, _, h => h.elim
  | _ :: _, [], _, h => h.elim
theorem VOk.ren {Im Pn : Nat → Prop} {D : Nat → SD} {c b : Nat} {s : V} (hs : σ.get (2 * c + 1) = some s) (hcb : c ≠ b) (hss : ∀ virt ls, s.ren c b = .slot virt ls → s = .slot virt ls) {u : V} (hb : b ∉ u.refs) {v : Value} (h : VOk w Im Pn σ D u v) :
    VOk w Im Pn (σ.ren c b) (fun j => if j = b then D c else D j) (u.ren c b) v := by
  cases u with
  | one l => exact TLeaf.ren hs hcb hss hb h
  | agg ls =>
    obtain ⟨vs, h1, h2⟩ := h
    exact ⟨vs, h1, All2.map_left (fun l hl v hv => TLeaf.ren hs hcb hss (fun hi => hb (mem_refsL hl hi)) hv) h2⟩
  | tup us =>
    obtain ⟨vs, h1, h2⟩ := h
    refine ⟨vs, h1, All2.map_left (fun p hp v hv => ?_) h2⟩
    have hm : ∀ l ∈ p.2, b ∉ l.refs := fun l hl hi => hb (mem_refsL (List.mem_flatMap.2 ⟨p, hp, hl⟩) hi)
    obtain ⟨q, ls⟩ := p
    cases q with
    | true =>
      obtain ⟨vs', a1, a2⟩ := hv
      exact ⟨vs', a1, All2.map_left (fun l hl v hv => TLeaf.ren hs hcb hss (hm l hl) hv) a2⟩
    | false =>
      obtain ⟨l, a1, a2⟩ := hv
      simp only at a1
      subst a1
      exact ⟨l.ren c b, rfl, TLeaf.ren hs hcb hss (hm l (by simp)) a2⟩
  | slot _ _ => exact h.elim
theorem R.ren (h : R C nt σ a w) {c b : Nat} {s : V} (hs : σ.get (2 * c + 1) = some s) (hcb : c ≠ b) (hb : b ∉ tempRefs σ) (hn : σ.get (2 * b + 1) = none) : R C nt (σ.ren c b) a w := by
  obtain ⟨Im, D, own, hm, ht⟩ := h
  have hss : ∀ virt ls, s.ren c b = .slot virt ls → s = .slot virt ls := fun virt ls e => by
    cases s with
    | slot virt' ls' => cases e; rfl
    | _ => cases e
  refine ⟨Im, fun j => if j = b then D c else D j, fun x => (own x).map (renTag c b), { hm with asc := St.ren_asc hm.asc, ow := fun x t hx => ?_, slot := fun id virt ls hg => ?_ }, ⟨fun t v hg => ?_, ht.defers, ht.size, ht.keep⟩⟩
  · obtain ⟨u, hu, _⟩ := Option.map_eq_some_iff.1 hx
    exact hm.ow x u hu
  · rw [St.ren_get hs hcb] at hg
    by_cases hid : id = b
    · subst hid
      rw [if_pos rfl] at hg
      cases hg
      obtain ⟨s1, s2, s3⟩ := hm.slot c virt ls hs
      simp only [if_true]
      exact ⟨s1, fun hv => by simp [s2 hv, renTag], fun i f x hf hx => by simp [s3 i f x hf hx, renTag]⟩
    · rw [if_neg (by omega)] at hg
      split at hg
      · cases hg
      · rename_i hne
        have hic : id ≠ c := by omega
        obtain ⟨u, h1, h2⟩ := Option.map_eq_some_iff.1 hg
        cases u with
        | slot virt' ls' =>
          cases h2
          obtain ⟨s1, s2, s3⟩ := hm.slot id virt ls h1
          simp only [hid, if_false]
          exact ⟨s1, fun hv => by simp [s2 hv, renTag, hic], fun i f x hf hx => by simp [s3 i f x hf hx, renTag, hic]⟩
        | _ => cases h2
  · rw [St.ren_get hs hcb, if_neg (by omega), if_neg (by omega)] at hg
    obtain ⟨u, h1, rfl⟩ := Option.map_eq_some_iff.1 hg
    obtain ⟨cv, c1, c2⟩ := ht.temp t u h1
    exact ⟨cv, c1, VOk.ren hs hcb hss (fun hi => hb (tempRefs_mem h1 hi)) c2⟩
theorem lift_ok : ∀ (D : List Nat) {σ : St}, (σ.Asc → (St.lift nt' D σ).Asc) ∧ (R C nt σ a w → R C nt (St.lift nt' D σ) a w)
  | [], σ => ⟨fun h => h, fun h => h⟩
  | d :: r, σ => by
    simp only [St.lift]
    split
    · exact lift_ok r
    · rename_i s hs
      split
      · rename_i h1 h2 h3
        refine ⟨fun h => (lift_ok r).1 (St.ren_asc h), fun h => (lift_ok r).2 (h.ren hs (fun e => ?_) (fun hi => ?_) h3)⟩
        · rw [← e] at h3
          rw [hs] at h3
          cases h3
        · rw [List.contains_iff_mem.2 hi] at h2
          cases h2
      · exact lift_ok r
/-- What a function's environment owes. -/
structure FxOk (P : Program) (fx : Fx) (nt : Nat) (C : Ct) : Prop where
  p : fx.P = P
  mix : P.follows .mixedOrders = true
  nt : fx.nt ≤ nt
  args : ∀ i p, C.args i = some p → i ∈ fx.ptrs
theorem R.drew (h : R C nt σ a w) : R C nt σ a w.drew := by
  obtain ⟨Im, D, own, hm, ht⟩ := h
  exact ⟨Im, D, own, hm.drew, ht.drew⟩
/-- From one abstract state to another one. -/
def CodeOk (P : Program) (C : Ct) (nt : Nat) (c : Code) (σ : St) (e : Exit) (σ' : St) : Prop :=
  ∀ a w, R C nt σ a w → ∀ Q : Exit → Act → World → Prop, (∀ a' w', R C nt σ' a' w' → Q e a' w') → c.wp P Q a w
theorem region_ok {fx : Fx} (hfx : FxOk P fx nt C) {orcK : {β : Type} → FuncId → St → (St → Option β) → Option β} (ho : OrcOk orcK (GoF P)) {β : Type} {K : St → Option β} {r : β} {id : Nat}
    (hasc : σ.Asc) (h : regionK orcK fx id ops draw σ K = some r) :
    ∃ σ', K σ' = some r ∧ CodeOk P C nt (.region id ops draw) σ .normal σ' := by
  unfold regionK at h
  dsimp only at h
  split at h
  · rename_i hD
    simp only [List.all_eq_true, Bool.and_eq_true, decide_eq_true_eq, Bool.not_eq_true', List.contains_iff_mem] at hD
    have hasc' : (St.lift fx.nt (dstsOf ops.toList) σ).Asc := by
      clear h hD
      have : ∀ (D : List Nat) {σ : St}, σ.Asc → (St.lift fx.nt D σ).Asc := by
        intro D
        induction D with
        | nil => exact fun h => h
        | cons d r ih =>
          intro σ h
          simp only [St.lift]
          split
          · exact ih h
          · split
            · exact ih (St.ren_asc h)
            · exact ih h
      exact this _ hasc
    have hlift : ∀ a w, R C nt σ a w → R C nt (St.lift fx.nt (dstsOf ops.toList) σ) a w := fun a w hR => (lift_ok _).2 hR
    clear hasc
    revert h
    generalize St.lift fx.nt (dstsOf ops.toList) σ = σ0 at hasc' hlift
    intro h
    have hpa : (σ0.purge (dstsOf ops.toList)).Asc := hasc'.filter _
    have hclen : (clos 0 ops.toList []).length = ops.toList.length := by
      obtain ⟨⟨t, h1, h2⟩, _⟩ := clos_spec ops.toList 0 []
      rw [h1, ← h2]; simp
    obtain ⟨ls, σf, k1, k2, k3, k4⟩ := opsK_run ho ops.toList 0 (clos 0 ops.toList []) hpa hclen h
    simp only [List.append_nil, List.reverse_reverse] at k4
    split at k4
    · rename_i hok
      simp only [okLogs, Bool.and_eq_true] at hok
      obtain ⟨⟨_, hons⟩, hpairs⟩ := hok
      rw [zip4_its] at hpairs
      have hix := itsOf_ix ops.toList 0 (clos 0 ops.toList []) ls hclen k1
      have hpw : (itsOf 0 (clos 0 ops.toList []) ops.toList ls).Pairwise (fun x y => x.i < y.i) := by
        have : ((itsOf 0 (clos 0 ops.toList []) ops.toList ls).map (·.i)).Pairwise (· < ·) := by rw [hix]; exact List.pairwise_lt_range' ..
        exact List.pairwise_map.1 this
      have hords := ords_of hpairs hpw
      have hmem : ∀ x ∈ itsOf 0 (clos 0 ops.toList []) ops.toList ls, ops[x.i]? = some x.o ∧ (clos 0 ops.toList [])[x.i]? = some x.b := fun x hx => by
        obtain ⟨k, m1, m2, m3, _⟩ := mem_itsOf _ _ _ _ x hx
        rw [Nat.zero_add] at m1
        rw [m1]
        exact ⟨by simpa using m2, m3⟩
      have hinv : Inv P C nt ⟨fx.P, fx.rc, fx.pins, dstsOf ops.toList⟩ ops draw (itsOf 0 (clos 0 ops.toList []) ops.toList ls) (σ0.purge (dstsOf ops.toList)) σf := by
        refine ⟨hpa, k2, hords, fun x hx => ⟨(hmem x hx).1, fun d hd => ?_⟩, fun x hx d hd t u hg hb => ?_⟩
        · have hdm : d ∈ dstsOf ops.toList := mem_dstsOf.2 ⟨x.o, by have := (hmem x hx).1; rw [← Array.getElem?_toList] at this; exact List.mem_of_getElem? this, hd⟩
          obtain ⟨d1, d2⟩ := hD d hdm
          refine ⟨Nat.lt_of_lt_of_le d1 hfx.nt, ?_⟩
          cases hc : C.args d with
          | none => rfl
          | some p =>
            have := hfx.args d p hc
            rw [← List.contains_iff_mem, d2] at this
            cases this
        · have hdm : d ∈ dstsOf ops.toList := mem_dstsOf.2 ⟨x.o, by have := (hmem x hx).1; rw [← Array.getElem?_toList] at this; exact List.mem_of_getElem? this, hd⟩
          have h3 := (purge_get hasc' hg).2
          rw [if_pos (by omega)] at h3
          exact anyIn_false h3 d hb hdm
      refine ⟨σf.clean (fx.live.at id), k4, fun a w hR Q hQ => ?_⟩
      have hR1 : R C nt (σ0.purge (dstsOf ops.toList)) a w := (hlift a w hR).sub hpa fun k v hk => (purge_get hasc' hk).1
      have hQ' : ∀ a' w', R C nt σf a' w' → Q .normal a' w' := fun a' w' hr => hQ a' w' (hr.sub (St.clean_asc k3 _) fun k v hk => St.clean_get k3 hk)
      cases draw with
      | false =>
        refine wp_region ?_
        have := seq_ok (cx := ⟨fx.P, fx.rc, fx.pins, dstsOf ops.toList⟩) hfx.p hQ' _ k3 hinv hR1
        rw [hix, ← List.range_eq_range'] at this
        simpa using this
      | true =>
        refine wp_region_any hfx.mix ?_
        have hw : ({ w with drawn := w.drawn + 1 } : World) = w.drew := rfl
        rw [hw]
        obtain ⟨_, hspec⟩ := clos_spec ops.toList 0 []
        have honsS := onsOk_spec ops.toList 0 hons
        have hlenI : (itsOf 0 (clos 0 ops.toList []) ops.toList ls).length = ops.size := by
          have := congrArg List.length hix
          simpa using this
        refine any_ok (cx := ⟨fx.P, fx.rc, fx.pins, dstsOf ops.toList⟩) hfx.p hQ' k3 (Bf := fun i => (clos 0 ops.toList []).getD i 0) (fun i o hi j hj => ?_) (fun i o hi k hk => ?_) ops.size _ _ hlenI (fun x hx => ?_) (by simp) (fun j hj => ?_) (fun k hk hl => ?_) hinv hR1.drew
        · have hi' : ops.toList[i]? = some o := by simpa using hi
          have h5 := hspec i o hi'
          simp only [List.length_nil, Nat.zero_add] at h5
          have hj' : (bitsOf ((clos 0 ops.toList []).take i) (onsOf o)).testBit j = true := by
            have : (clos 0 ops.toList []).getD i 0 = bitsOf ((clos 0 ops.toList []).take i) (onsOf o) := by rw [List.getD_eq_getElem?_getD, h5]; rfl
            rw [← this]; exact hj
          obtain ⟨k, hk, h6⟩ := bitsOf_test.1 hj'
          refine ⟨k, hk, h6.imp (fun h => h) fun h => ?_⟩
          have hki := honsS i o hi' k hk
          rw [List.getD_eq_getElem?_getD, List.getElem?_take, if_pos (by omega), ← List.getD_eq_getElem?_getD] at h
          exact h
        · have := honsS i o (by simpa using hi) k hk
          omega
        · have := (hmem x hx).2
          rw [List.getD_eq_getElem?_getD, this]; rfl
        · have hg : (Array.replicate ops.size false).getD j false = false := by simp [Array.getD, hj]
          rw [hg]
          simp only [true_iff]
          have : j ∈ (itsOf 0 (clos 0 ops.toList []) ops.toList ls).map (·.i) := by rw [hix]; simpa using hj
          obtain ⟨x, hx, e⟩ := List.mem_map.1 this
          exact ⟨x, hx, e⟩
        · have hg : (Array.replicate ops.size false).getD k false = false := by simp [Array.getD, hk]
          rw [hg] at hl
          cases hl
    · cases k4
  · cases h
end Go.Vi
/- Code. -/
namespace Go.Vi
set_option linter.unusedVariables false
set_option linter.unusedSimpArgs false
variable {P : Program} {C : Ct} {nt : Nat} {σ σ' σf τ : St} {w w' : World} {a : Act}

theorem opsK_some {orc : Orc} {orcK : {β : Type} → FuncId → St → (St → Option β) → Option β} (ho : OrcOk orcK orc) {cx : Cx} {ops : Array Oper} {β : Type} {K : St → List (List Ac) → Option β} {r : β} :
    ∀ (os : List Oper) {σ : St} {acc : List (List Ac)}, opsK orcK cx ops os σ acc K = some r → ∃ σf ls, K σf ls = some r
  | [], σ, acc, h => ⟨σ, acc, h⟩
  | o :: os, σ, acc, h => by
    have go : ∀ {m : M} {τ : St}, m.runK orcK τ [] (fun σ' l => opsK orcK cx ops os σ' (l :: acc) K) = some r → ∃ σf ls, K σf ls = some r := fun hr => by
      obtain ⟨l, h1, h2⟩ := runK_sound ho _ _ _ _ _ hr
      exact opsK_some ho os h2
    simp only [opsK] at h
    cases hg : o.guard with
    | none => rw [hg] at h; exact go h
    | some g =>
      obtain ⟨j, want⟩ := g
      rw [hg] at h
      dsimp only at h
      split at h
      · split at h
        · split at h
          · exact go h
          · exact go h
        · exact go h
        · cases h
      · cases h
theorem regionK_some {orc : Orc} {orcK : {β : Type} → FuncId → St → (St → Option β) → Option β} (ho : OrcOk orcK orc) {fx : Fx} {ops : Array Oper} {draw : Bool} {β : Type} {K : St → Option β} {r : β} {id : Nat}
    (h : regionK orcK fx id ops draw σ K = some r) : ∃ σ', K σ' = some r := by
  unfold regionK at h
  dsimp only at h
  split at h
  · obtain ⟨σf, ls, h1⟩ := opsK_some ho _ h
    split at h1
    · exact ⟨_, h1⟩
    · cases h1
  · cases h
theorem R.asc (h : R C nt σ a w) : σ.Asc := by
  obtain ⟨Im, D, own, hm, ht⟩ := h
  exact hm.asc
def LpOk (P : Program) (C : Ct) (nt : Nat) {β : Type} (lp : Nat → St → (Exit → St → Option β) → Option β) (bs : List Code) : Prop :=
  ∀ b ∈ bs, ∀ σ K r, lp (keyOf b) σ K = some r → ∃ e σ', K e σ' = some r ∧ CodeOk P C nt (.loop b) σ e σ'
theorem LpOk.sub {β : Type} {lp : Nat → St → (Exit → St → Option β) → Option β} {bs cs : List Code} (h : LpOk P C nt lp cs) (hs : ∀ b ∈ bs, b ∈ cs) : LpOk P C nt lp bs := fun b hb => h b (hs b hb)
theorem codeK_ok {fx : Fx} (hfx : FxOk P fx nt C) {orcK : {β : Type} → FuncId → St → (St → Option β) → Option β} (ho : OrcOk orcK (GoF P)) {β : Type} {lp : Nat → St → (Exit → St → Option β) → Option β} :
    ∀ (c : Code) {σ : St} {K : Exit → St → Option β} {r : β}, LpOk P C nt lp (loopsOf c) → codeK orcK lp fx c σ K = some r → ∃ e σ', K e σ' = some r ∧ CodeOk P C nt c σ e σ'
  | .skip, σ, K, r, _, h => ⟨.normal, σ, h, fun a w hR Q hQ => wp_skip (hQ a w hR)⟩
  | .region id ops draw, σ, K, r, _, h => by
    by_cases hs : ∃ a w, R C nt σ a w
    · obtain ⟨a, w, hR⟩ := hs
      obtain ⟨σ', h1, h2⟩ := region_ok hfx ho hR.asc h
      exact ⟨.normal, σ', h1, h2⟩
    · obtain ⟨σ', h1⟩ := regionK_some ho h
      exact ⟨.normal, σ', h1, fun a w hR => absurd ⟨a, w, hR⟩ hs⟩
  | .seq x y, σ, K, r, hl, h => by
    simp only [codeK] at h
    obtain ⟨e, σ1, h1, h2⟩ := codeK_ok hfx ho x (hl.sub fun b hb => List.mem_append_left _ hb) h
    cases e with
    | normal =>
      obtain ⟨e2, σ2, h3, h4⟩ := codeK_ok hfx ho y (hl.sub fun b hb => List.mem_append_right _ hb) h1
      exact ⟨e2, σ2, h3, fun a w hR Q hQ => wp_seq (h2 a w hR _ fun a' w' hR' => h4 a' w' hR' Q hQ)⟩
    | exit id => exact ⟨_, σ1, h1, fun a w hR Q hQ => wp_seq (h2 a w hR _ fun a' w' hR' => hQ a' w' hR')⟩
    | goto id => exact ⟨_, σ1, h1, fun a w hR Q hQ => wp_seq (h2 a w hR _ fun a' w' hR' => hQ a' w' hR')⟩
    | ret => exact ⟨_, σ1, h1, fun a w hR Q hQ => wp_seq (h2 a w hR _ fun a' w' hR' => hQ a' w' hR')⟩
    | panic id => exact ⟨_, σ1, h1, fun a w hR Q hQ => wp_seq (h2 a w hR _ fun a' w' hR' => hQ a' w' hR')⟩
    | outgrown => exact ⟨_, σ1, h1, fun a w hR Q hQ => wp_seq (h2 a w hR _ fun a' w' hR' => hQ a' w' hR')⟩
  | .cond c x y, σ, K, r, hl, h => by
    simp only [codeK] at h
    split at h
    · rename_i t
      split at h
      · rename_i g hg
        have hev : ∀ a w, R C nt σ a w → a.eval (.tmp t) = .bool g := fun a w hR => by
          obtain ⟨Im, D, own, hm, ht⟩ := hR
          obtain ⟨cv, h1, h2⟩ := ht.temp t _ hg
          simp only [Act.eval, Array.getD_eq_getD_getElem?, h1, Option.getD_some]
          exact h2.1
        split at h
        · obtain ⟨e, σ1, h1, h2⟩ := codeK_ok hfx ho x (hl.sub fun b hb => List.mem_append_left _ hb) h
          exact ⟨e, σ1, h1, fun a w hR Q hQ => wp_cond (hev a w hR) (h2 a w hR Q hQ)⟩
        · obtain ⟨e, σ1, h1, h2⟩ := codeK_ok hfx ho y (hl.sub fun b hb => List.mem_append_right _ hb) h
          exact ⟨e, σ1, h1, fun a w hR Q hQ => wp_cond (hev a w hR) (h2 a w hR Q hQ)⟩
      · cases h
    · cases h
  | .block id b, σ, K, r, hl, h => by
    simp only [codeK] at h
    obtain ⟨e, σ1, h1, h2⟩ := codeK_ok hfx ho b hl h
    cases e with
    | exit i =>
      dsimp only at h1
      split at h1
      · rename_i hi
        exact ⟨.normal, σ1, h1, fun a w hR Q hQ => wp_block (h2 a w hR _ fun a' w' hR' => by simp only [Exit.inBlock, hi, if_true]; exact hQ a' w' hR')⟩
      · rename_i hi
        exact ⟨_, σ1, h1, fun a w hR Q hQ => wp_block (h2 a w hR _ fun a' w' hR' => by simp only [Exit.inBlock, hi, if_false]; exact hQ a' w' hR')⟩
    | normal => exact ⟨_, σ1, h1, fun a w hR Q hQ => wp_block (h2 a w hR _ fun a' w' hR' => hQ a' w' hR')⟩
    | goto l => exact ⟨_, σ1, h1, fun a w hR Q hQ => wp_block (h2 a w hR _ fun a' w' hR' => hQ a' w' hR')⟩
    | ret => exact ⟨_, σ1, h1, fun a w hR Q hQ => wp_block (h2 a w hR _ fun a' w' hR' => hQ a' w' hR')⟩
    | panic l => exact ⟨_, σ1, h1, fun a w hR Q hQ => wp_block (h2 a w hR _ fun a' w' hR' => hQ a' w' hR')⟩
    | outgrown => exact ⟨_, σ1, h1, fun a w hR Q hQ => wp_block (h2 a w hR _ fun a' w' hR' => hQ a' w' hR')⟩
  | .loop b, σ, K, r, hl, h => hl b (by simp [loopsOf]) σ K r h
  | .exit id, σ, K, r, _, h => ⟨.exit id, σ, h, fun a w hR Q hQ => wp_exit (hQ a w hR)⟩
  | .ret, σ, K, r, _, h => ⟨.ret, σ, h, fun a w hR Q hQ => wp_ret (hQ a w hR)⟩
  | .label _, _, _, _, _, h => by simp [codeK] at h
  | .goto _, _, _, _, _, h => by simp [codeK] at h

/-! ### Loops -/
/-- A round of a loop: what stands behind its body. -/
def roundK {β : Type} (again : St → (Exit → St → Option β) → Option β) (K : Exit → St → Option β) : Exit → St → Option β := fun e σ => match e with
  | .normal => again σ K
  | e => K e σ
/-- A loop, told by rounds: 'L n' is what is said of it by at most n rounds. -/
theorem loop_ok {fx : Fx} (hfx : FxOk P fx nt C) {orcK : {β : Type} → FuncId → St → (St → Option β) → Option β} (ho : OrcOk orcK (GoF P)) {β : Type} {lp : Nat → St → (Exit → St → Option β) → Option β} {b : Code} (hl : LpOk P C nt lp (loopsOf b))
    {L : Nat → St → (Exit → St → Option β) → Option β} (h0 : ∀ σ K r, L 0 σ K ≠ some r)
    (hs : ∀ n σ K r, L (n + 1) σ K = some r → codeK orcK lp fx b σ (roundK (L n) K) = some r) :
    ∀ n σ K r, L n σ K = some r → ∃ e σ', K e σ' = some r ∧ CodeOk P C nt (.loop b) σ e σ' := by
  have key : ∀ n σ K r, L n σ K = some r → ∃ e σ', K e σ' = some r ∧ ∀ a w, R C nt σ a w → ∀ Q : Exit → Act → World → Prop, (∀ a' w', R C nt σ' a' w' → Q e a' w') → Code.rounds P b Q n a w := by
    intro n
    induction n with
    | zero => exact fun σ K r h => absurd h (h0 σ K r)
    | succ n ih =>
      intro σ K r h
      obtain ⟨e, σ1, h1, h2⟩ := codeK_ok hfx ho b hl (hs n σ K r h)
      cases e with
      | normal =>
        obtain ⟨e2, σ2, h3, h4⟩ := ih σ1 K r h1
        exact ⟨e2, σ2, h3, fun a w hR Q hQ => h2 a w hR _ fun a' w' hR' => h4 a' w' hR' Q hQ⟩
      | exit l => exact ⟨_, σ1, h1, fun a w hR Q hQ => h2 a w hR _ fun a' w' hR' => hQ a' w' hR'⟩
      | goto l => exact ⟨_, σ1, h1, fun a w hR Q hQ => h2 a w hR _ fun a' w' hR' => hQ a' w' hR'⟩
      | ret => exact ⟨_, σ1, h1, fun a w hR Q hQ => h2 a w hR _ fun a' w' hR' => hQ a' w' hR'⟩
      | panic l => exact ⟨_, σ1, h1, fun a w hR Q hQ => h2 a w hR _ fun a' w' hR' => hQ a' w' hR'⟩
      | outgrown => exact ⟨_, σ1, h1, fun a w hR Q hQ => h2 a w hR _ fun a' w' hR' => hQ a' w' hR'⟩
  intro n σ K r h
  obtain ⟨e, σ', h1, h2⟩ := key n σ K r h
  exact ⟨e, σ', h1, fun a w hR Q hQ => wp_loop_rounds n (h2 a w hR Q hQ)⟩
end Go.Vi
/- A function's results. -/
namespace Go.Vi
set_option linter.unusedVariables false
set_option linter.unusedSimpArgs false
variable {P : Program} {C : Ct} {nt : Nat} {σ σ' σf τ : St} {w w' : World} {Im Im' Pn : Nat → Prop} {D D' : Nat → SD} {own own' : Nat → Option Tag} {a : Act}

/-! ### The results' values -/
def TupOk (w : World) (Im Pn : Nat → Prop) (σ : St) (D : Nat → SD) (p : Bool × List Lf) (v : Value) (cells : List Value) : Prop :=
  match p.1 with
  | true => v = .agg cells.toArray ∧ All2 (TLeaf w Im Pn σ D) p.2 cells
  | false => ∃ l, p.2 = [l] ∧ cells = [v] ∧ TLeaf w Im Pn σ D l v
def resSem (tmps : Array Value) : ResultVar → Sem Value
  | .tmp t => pure (tmps.getD t undef)
  | .cell a t => do loadVar t (← asAddr (tmps.getD a undef))
theorem cellLs_eq (id : Nat) : ∀ (off : Nat) (ls : List Lf), cellLs id off ls = loadLs id off ls
  | _, [] => rfl
  | off, l :: r => by simp only [cellLs, loadLs, cellLs_eq id (off + 1) r]
theorem resV_ok (hm : RM C σ w Im D own) (ht : RT C nt σ w Im D a) {rv : ResultVar} {p : Bool × List Lf} (h : resV P σ rv = some p) :
    ∃ v cells, (resSem a.tmps rv).run P w = .ok v w ∧ TupOk w Im C.Pn σ D p v cells := by
  cases rv with
  | tmp t =>
    simp only [resV] at h
    split at h
    · rename_i l hg
      cases h
      obtain ⟨cv, h1, h2⟩ := ht.temp t _ hg
      refine ⟨cv, [cv], by simp [resSem, Array.getD_eq_getD_getElem?, h1], l, rfl, rfl, h2⟩
    · rename_i ls hg
      cases h
      obtain ⟨cv, h1, vs, h2, h3⟩ := ht.temp t _ hg
      exact ⟨cv, vs, by simp [resSem, Array.getD_eq_getD_getElem?, h1], h2, h3⟩
    · cases h
  | cell t ty =>
    simp only [resV] at h
    split at h
    · rename_i id hg
      split at h
      · rename_i ls hs
        split at h
        · rename_i hc
          cases h
          simp only [Bool.and_eq_true, decide_eq_true_eq, Bool.not_eq_true'] at hc
          obtain ⟨⟨hld, hlen⟩, hu⟩ := hc
          obtain ⟨cv, h1, h2⟩ := ht.temp t _ hg
          have hcv : cv = .pointer (some ⟨(D id).b, 0, none⟩) := h2 ls hs
          have hsl := (hm.slot id false ls hs).1
          have hcells := hm.boxCells hs
          have hall := loadLs_ok (C := C) hm hs ls 0 (fun j l hj => by simpa using hj) hu
          simp only [List.drop_zero] at hall
          rw [← hsl.vlen, List.take_length, ← cellLs_eq] at hall
          obtain ⟨k1, k2, k3⟩ := ldT_ok hld
          have hvl : (D id).vs.length = P.cellsOf ty := by rw [hsl.vlen, hlen]
          have hrun := run_loadVar (w := w) k1 hcells hvl (fun hs => by rw [hvl]; exact k3 hs) k2
          refine ⟨packC P ty (D id).vs, (D id).vs, ?_, ?_⟩
          · simp [resSem, Array.getD_eq_getD_getElem?, h1, hcv, asAddr, hrun]
          · simp only [TupOk, packC]
            cases ha : isAggT P ty with
            | true => exact ⟨rfl, hall⟩
            | false =>
              have hone := k3 ha
              rw [← hvl] at hone
              obtain ⟨c, hc⟩ : ∃ c, (D id).vs = [c] := by
                match h : (D id).vs, hone with
                | [c], _ => exact ⟨c, rfl⟩
              rw [hc] at hall ⊢
              dsimp only
              generalize cellLs id 0 ls = q at hall
              match q, hall with
              | [l], hall => exact ⟨l, rfl, rfl, hall.1⟩
        · cases h
      · cases h
    · cases h
theorem resVs_ok (hm : RM C σ w Im D own) (ht : RT C nt σ w Im D a) : ∀ (rs : List ResultVar) {ps : List (Bool × List Lf)}, resVs P σ rs = some ps →
    ∃ (vs : List Value) (css : List (List Value)), rs.length = vs.length ∧ (∀ (j : Nat) rv, rs[j]? = some rv → ∃ v, vs[j]? = some v ∧ (resSem a.tmps rv).run P w = .ok v w) ∧
      ps.length = vs.length ∧ css.length = vs.length ∧ ∀ (j : Nat) p, ps[j]? = some p → ∃ v cs, vs[j]? = some v ∧ css[j]? = some cs ∧ TupOk w Im C.Pn σ D p v cs
  | [], ps, h => by
    simp only [resVs] at h
    cases h
    exact ⟨[], [], rfl, fun j rv h => by simp at h, rfl, rfl, fun j p h => by simp at h⟩
  | r :: rs, ps, h => by
    simp only [resVs] at h
    split at h
    · rename_i p ps' h1 h2
      cases h
      obtain ⟨v, cs, k1, k2⟩ := resV_ok hm ht h1
      obtain ⟨vs, css, m1, m2, m3, m4, m5⟩ := resVs_ok hm ht rs h2
      refine ⟨v :: vs, cs :: css, by simp [m1], fun j rv hj => ?_, by simp [m3], by simp [m4], fun j q hj => ?_⟩
      · cases j with
        | zero => simp at hj; subst hj; exact ⟨v, rfl, k1⟩
        | succ j => simp at hj; obtain ⟨u, a1, a2⟩ := m2 j rv hj; exact ⟨u, by simpa using a1, a2⟩
      · cases j with
        | zero => simp at hj; subst hj; exact ⟨v, cs, rfl, rfl, k2⟩
        | succ j => simp at hj; obtain ⟨u, c, a1, a2, a3⟩ := m5 j q hj; exact ⟨u, c, by simpa using a1, by simpa using a2, a3⟩
    · cases h
theorem run_mapM_list {α : Type} {f : α → Sem Value} : ∀ {xs : List α} {vs : List Value}, xs.length = vs.length → (∀ (j : Nat) x, xs[j]? = some x → ∃ v, vs[j]? = some v ∧ (f x).run P w = .ok v w) → (xs.mapM f).run P w = .ok vs w
  | [], [], _, _ => by simp
  | x :: xs, v :: vs, hl, hf => by
    obtain ⟨u, h1, h2⟩ := hf 0 x rfl
    have hu : v = u := by simpa using h1
    subst hu
    have ih := run_mapM_list (xs := xs) (vs := vs) (by simpa using hl) fun j y hj => by
      obtain ⟨u, a1, a2⟩ := hf (j + 1) y (by simpa using hj)
      exact ⟨u, by simpa using a1, a2⟩
    simp [List.mapM_cons, h2, ih]
  | [], _ :: _, hl, _ => by simp at hl
  | _ :: _, [], hl, _ => by simp at hl
def oneOf : List Value → Value
  | [v] => v
  | vs => .tuple vs.toArray
theorem run_results {fn : Func} {tmps : Array Value} {vs : List Value} (hl : fn.results.toList.length = vs.length) (hf : ∀ (j : Nat) rv, fn.results.toList[j]? = some rv → ∃ v, vs[j]? = some v ∧ (resSem tmps rv).run P w = .ok v w) :
    (results fn tmps).run P w = .ok (oneOf vs) w := by
  have h := run_mapM_list (P := P) (w := w) hl hf
  have hres : results fn tmps = (do let vs ← fn.results.mapM (resSem tmps); pure (if h : vs.size = 1 then vs[0] else .tuple vs)) := by
    unfold results
    congr 1
  have h' : (fn.results.mapM (resSem tmps)).run P w = .ok vs.toArray w := by
    rw [Array.mapM_eq_mapM_toList]
    simp [h]
  rw [hres, Sem.run_bind, h', Result.andThen_ok, Sem.run_pure]
  congr 1
  match vs with
  | [] => rfl
  | [v] => rfl
  | u :: v :: r => simp [oneOf]
end Go.Vi
/- A function's end. -/
namespace Go.Vi
set_option linter.unusedVariables false
set_option linter.unusedSimpArgs false
variable {P : Program} {C : Ct} {nt : Nat} {σ σ' σf τ : St} {w w' : World} {Im Im' Pn : Nat → Prop} {D D' : Nat → SD} {own own' : Nat → Option Tag} {a : Act}

/-! ### Results are taken out -/
def isOwnL : Lf → Bool
  | .lst .own _ _ _ => true
  | _ => false
theorem outLf_ok (hm : RM C σ w Im D own) (ht : RT C nt σ w Im D a) {l l' o : Lf} {n : Nat} (h : outLf σ n l = some (σ', l', o)) {v : Value} (hv : TLeaf w Im C.Pn σ D l v) :
    ∃ Im' D' own' f, Ext C nt a w σ Im D own σ' Im' D' own' (· = n) ∧ LeafOk w Im' C.Pn o v f ∧ (∀ x ∈ f, own' x = some (.fl n)) ∧ ((l' = .view 0 n) ∨ ∀ Im'', (∀ b, Im' b → Im'' b) → ∀ σF DF, TLeaf w Im'' C.Pn σF DF l' v) := by
  cases l with
  | sc u =>
    cases h
    exact ⟨Im, D, own, [], { Ext.refl hm ht with fo := fun _ _ h => .inl h }, ⟨by rw [hv.1]; exact hv.2, rfl⟩, fun _ hx => (by cases hx), .inr fun _ _ _ _ => hv⟩
  | nil e kd =>
    cases h
    have hv : v = .slice none 0 0 := hv
    subst hv
    exact ⟨Im, D, own, [], { Ext.refl hm ht with fo := fun _ _ h => .inl h }, ⟨[], [], ⟨by simp, .inl ⟨rfl, rfl⟩⟩, ⟨by simp, rfl, fun i x hx => by simp at hx⟩, rfl, List.nodup_nil⟩, fun _ hx => (by cases hx), .inl rfl⟩
  | lst m e kd xs =>
    cases m with
    | own => cases h
    | frz =>
      cases h
      refine ⟨Im, D, own, [], { Ext.refl hm ht with fo := fun _ _ h => .inl h }, ⟨?_, rfl⟩, fun _ hx => (by cases hx), .inr fun Im'' hi _ _ => Frz.imp (fun _ _ => rfl) hi hv⟩
      obtain ⟨a, cap, rfl⟩ := FrzG.slice hv
      rfl
    | pin =>
      cases h
      refine ⟨Im, D, own, [], { Ext.refl hm ht with fo := fun _ _ h => .inl h }, ⟨?_, rfl⟩, fun _ hx => (by cases hx), .inr fun Im'' hi _ _ => hv⟩
      obtain ⟨a, cap, rfl⟩ := FrzG.slice hv
      rfl
  | view id off =>
    simp only [outLf] at h
    split at h
    · rename_i virt ls hg
      split at h
      · rename_i e kd xs hl
        cases h
        obtain ⟨v', f, D', own', h1, h2, h3, h4⟩ := take_own hm ht hg hl n
        have hval := hv virt ls .own e kd xs hg hl (by simp)
        have hvv : v' = v := by rw [hval] at h1; cases h1; rfl
        subst hvv
        exact ⟨Im, D', own', f, h2, h3, h4, .inl rfl⟩
      · rename_i e kd xs hl
        cases h
        obtain ⟨v', f, h1, h2, h3, h4⟩ := hm.leaf hg hl
        have hval := hv virt ls .frz e kd xs hg hl (by simp)
        have hvv : v' = v := by rw [hval] at h1; cases h1; rfl
        subst hvv
        exact ⟨Im, D, own, [], { Ext.refl hm ht with fo := fun _ _ h => .inl h }, ⟨h3.one, rfl⟩, fun _ hx => (by cases hx), .inr fun Im'' hi _ _ => Frz.imp (fun _ _ => rfl) hi h3.2⟩
      · cases h
    · cases h
  | _ => cases h
theorem outLs_ok : ∀ (ls : List Lf) {ls' os : List Lf} {n : Nat} {σ : St} {Im : Nat → Prop} {D : Nat → SD} {own : Nat → Option Tag} {vs : List Value} (hm : RM C σ w Im D own) (ht : RT C nt σ w Im D a) (h : outLs σ n ls = some (σ', ls', os)) (hv : All2 (TLeaf w Im C.Pn σ D) ls vs),
    ∃ Im' D' own' fs, Ext C nt a w σ Im D own σ' Im' D' own' (fun m => n ≤ m) ∧ Taken w Im' C.Pn own' n os vs fs ∧ os.length = ls.length ∧
      ∀ Im'', (∀ b, Im' b → Im'' b) → ∀ σF DF, (∀ (i : Nat), i < vs.length → (DF 0).vs[n + i]? = vs[i]?) → All2 (TLeaf w Im'' C.Pn σF DF) ls' vs
  | [], ls', os, n, σ, Im, D, own, [], hm, ht, h, _ => by
    simp only [outLs] at h
    cases h
    exact ⟨Im, D, own, [], { Ext.refl hm ht with fo := fun _ _ h => .inl h }, trivial, rfl, fun _ _ _ _ _ => trivial⟩
  | [], _, _, _, _, _, _, _, _ :: _, _, _, _, hv => hv.elim
  | _ :: _, _, _, _, _, _, _, _, [], _, _, _, hv => hv.elim
  | l :: r, ls', os, n, σ, Im, D, own, v :: vs, hm, ht, h, hv => by
    simp only [outLs] at h
    split at h
    · rename_i σ1 l' o h1
      split at h
      · rename_i σ2 r' os' h2
        cases h
        obtain ⟨Im1, D1, own1, f, e1, k1, k2, k3⟩ := outLf_ok hm ht h1 hv.1
        obtain ⟨Im2, D2, own2, fs, e2, t2, t3, t4⟩ := outLs_ok r e1.rm e1.rt h2 (hv.2.imp e1.tl)
        refine ⟨Im2, D2, own2, f :: fs, { e1.trans e2 with fo := fun x m hx => ?_ }, ⟨⟨k1.imp (fun _ _ => rfl) e2.im (fun _ _ => rfl) (fun _ _ => rfl), fun x hx => e2.fl x n (k2 x hx)⟩, t2⟩, by simp [t3], fun Im'' hi σF DF hr => ⟨?_, t4 Im'' hi σF DF fun i hi' => ?_⟩⟩
        · rcases (e1.trans e2).fo x m hx with hx | hx | hx
          · exact .inl hx
          · exact .inr (by omega)
          · exact .inr (by omega)
        · rcases k3 with rfl | k3
          · intro virt ls m e k xs _ _ _
            have := hr 0 (by simp)
            simpa using this
          · exact k3 Im'' (fun b hb => hi b (e2.im b hb)) σF DF
        · have := hr (i + 1) (by simp; omega)
          rw [show n + 1 + i = n + (i + 1) by omega, this]
          simp
      · cases h
    · cases h
theorem Taken.append : ∀ {ls ls' : List Lf} {vs vs' : List Value} {fs fs' : List (List Nat)} {n : Nat}, Taken w Im Pn own n ls vs fs → Taken w Im Pn own (n + ls.length) ls' vs' fs' → Taken w Im Pn own n (ls ++ ls') (vs ++ vs') (fs ++ fs')
  | [], ls', [], vs', [], fs', n, _, h => h
  | l :: ls, ls', v :: vs, vs', f :: fs, fs', n, h, h' => ⟨h.1, Taken.append h.2 (by rw [show n + 1 + ls.length = n + (l :: ls).length by simp; omega]; exact h')⟩
  | [], _, [], _, _ :: _, _, _, h, _ => h.elim
  | [], _, _ :: _, _, _, _, _, h, _ => h.elim
  | _ :: _, _, [], _, _, _, _, h, _ => h.elim
  | _ :: _, _, _ :: _, _, [], _, _, h, _ => h.elim
theorem outVs_ok : ∀ (ps : List (Bool × List Lf)) {ws : List (Bool × List Lf)} {os : List Lf} {n : Nat} {σ : St} {Im : Nat → Prop} {D : Nat → SD} {own : Nat → Option Tag} {vs : List Value} {css : List (List Value)} (hm : RM C σ w Im D own) (ht : RT C nt σ w Im D a) (h : outVs σ n ps = some (σ', ws, os))
    (hl : ps.length = vs.length) (hl' : css.length = vs.length) (hv : ∀ (j : Nat) p, ps[j]? = some p → ∃ v cs, vs[j]? = some v ∧ css[j]? = some cs ∧ TupOk w Im C.Pn σ D p v cs),
    ∃ Im' D' own' fs, Ext C nt a w σ Im D own σ' Im' D' own' (fun m => n ≤ m) ∧ Taken w Im' C.Pn own' n os css.flatten fs ∧ ws.length = ps.length ∧
      ∀ Im'', (∀ b, Im' b → Im'' b) → ∀ σF DF, (∀ (i : Nat), i < css.flatten.length → (DF 0).vs[n + i]? = css.flatten[i]?) → ∀ (j : Nat) p, ws[j]? = some p → ∃ v cs, vs[j]? = some v ∧ css[j]? = some cs ∧ TupOk w Im'' C.Pn σF DF p v cs
  | [], ws, os, n, σ, Im, D, own, vs, css, hm, ht, h, hl, hl', _ => by
    simp only [outVs] at h
    cases h
    have : css = [] := List.eq_nil_of_length_eq_zero (by rw [hl', ← hl]; rfl)
    subst this
    exact ⟨Im, D, own, [], { Ext.refl hm ht with fo := fun _ _ h => .inl h }, trivial, rfl, fun _ _ _ _ _ j p hj => by simp at hj⟩
  | (b, ls) :: r, ws, os, n, σ, Im, D, own, [], css, hm, ht, h, hl, hl', _ => by simp at hl
  | (b, ls) :: r, ws, os, n, σ, Im, D, own, v :: vs, [], hm, ht, h, hl, hl', _ => by simp at hl'
  | (b, ls) :: r, ws, os, n, σ, Im, D, own, v :: vs, cs :: css, hm, ht, h, hl, hl', hv => by
    simp only [outVs] at h
    split at h
    · rename_i σ1 ls' o h1
      split at h
      · rename_i σ2 r' os' h2
        cases h
        obtain ⟨v', cs', hv1, hv2, hp⟩ := hv 0 (b, ls) rfl
        have hv1 : v = v' := by simpa using hv1
        have hv2 : cs = cs' := by simpa using hv2
        subst hv1
        subst hv2
        have hall : All2 (TLeaf w Im C.Pn σ D) ls cs := by
          cases b with
          | true => exact hp.2
          | false =>
            obtain ⟨l, e1, e2, e3⟩ := hp
            simp only at e1
            subst e1
            subst e2
            exact ⟨e3, trivial⟩
        obtain ⟨Im1, D1, own1, fs1, e1, t1, u1, k1⟩ := outLs_ok ls hm ht h1 hall
        have hlen : cs.length = ls.length := hall.length.symm
        have hv' : ∀ (j : Nat) p, r[j]? = some p → ∃ v cs, vs[j]? = some v ∧ css[j]? = some cs ∧ TupOk w Im1 C.Pn σ1 D1 p v cs := fun j p hj => by
          obtain ⟨u, c, a1, a2, a3⟩ := hv (j + 1) p (by simpa using hj)
          refine ⟨u, c, by simpa using a1, by simpa using a2, ?_⟩
          obtain ⟨q, qs⟩ := p
          cases q with
          | true => exact ⟨a3.1, a3.2.imp e1.tl⟩
          | false =>
            obtain ⟨l, b1, b2, b3⟩ := a3
            exact ⟨l, b1, b2, e1.tl _ _ b3⟩
        obtain ⟨Im2, D2, own2, fs2, e2, t2, u2, k2⟩ := outVs_ok r e1.rm e1.rt h2 (by simpa using hl) (by simpa using hl') hv'
        refine ⟨Im2, D2, own2, fs1 ++ fs2, { e1.trans e2 with fo := fun x m hx => ?_ }, ?_, by simp [u2], fun Im'' hi σF DF hr j p hj => ?_⟩
        · rcases (e1.trans e2).fo x m hx with hx | hx | hx
          · exact .inl hx
          · exact .inr hx
          · exact .inr (by omega)
        · simp only [List.flatten_cons]
          exact Taken.append (n := n) (t1.ext e2) (by rw [u1]; exact t2)
        · cases j with
          | zero =>
            simp at hj
            subst hj
            refine ⟨v, cs, rfl, rfl, ?_⟩
            have hall' := k1 Im'' (fun b hb => hi b (e2.im b hb)) σF DF fun i hi' => by
              have := hr i (by rw [List.flatten_cons, List.length_append]; omega)
              rw [this, List.flatten_cons, List.getElem?_append_left hi']
            cases b with
            | true => exact ⟨hp.1, hall'⟩
            | false =>
              obtain ⟨l, b1, b2, b3⟩ := hp
              simp only at b1
              subst b1
              subst b2
              match ls', hall' with
              | [l'], hall' => exact ⟨l', rfl, rfl, hall'.1⟩
          | succ j =>
            simp at hj
            obtain ⟨u, c, a1, a2, a3⟩ := k2 Im'' hi σF DF (fun i hi' => by
              have := hr (cs.length + i) (by rw [List.flatten_cons, List.length_append]; omega)
              rw [← hlen, show n + cs.length + i = n + (cs.length + i) by omega, this, List.flatten_cons, List.getElem?_append_right (by omega)]
              congr 1
              omega) j p hj
            exact ⟨u, c, by simpa using a1, by simpa using a2, a3⟩
      · cases h
    · cases h
end Go.Vi
/- A function, run: its contract. -/
namespace Go.Vi
set_option linter.unusedVariables false
set_option linter.unusedSimpArgs false
variable {P : Program} {C : Ct} {nt : Nat} {σ σ' σf τ : St} {w w' : World} {Im Im' Pn : Nat → Prop} {D D' : Nat → SD} {own own' : Nat → Option Tag} {a : Act}

structure HandedOk (σ : St) (ptrs : List Nat) (hs : St) : Prop where
  ptr : ∀ i ∈ ptrs, ∃ ls, σ.get (2 * i) = some (.one (.addr i 0)) ∧ σ.get (2 * i + 1) = some (.slot false ls)
  get : ∀ k v, hs.get k = some v → (∃ i ∈ ptrs, k = 2 * (i + 1) ∧ v = .one (.addr (i + 1) 0)) ∨ (∃ i ∈ ptrs, ∃ ls, k = 2 * (i + 1) + 1 ∧ v = .slot false ls ∧ σ.get (2 * i + 1) = some (.slot false ls))
  key : ∀ q ∈ hs, ∃ i ∈ ptrs, q.1 = 2 * (i + 1) ∨ q.1 = 2 * (i + 1) + 1
  asc : ptrs.Pairwise (· < ·) → hs.Asc
theorem handed_ok : ∀ (ptrs : List Nat) {hs : St}, handed σ ptrs = some hs → HandedOk σ ptrs hs
  | [], hs, h => by
    simp only [handed] at h
    cases h
    exact ⟨fun i hi => (by cases hi), fun k v hk => by simp [St.get] at hk, fun q hq => (by cases hq), fun _ => List.Pairwise.nil⟩
  | i :: r, hs, h => by
    simp only [handed] at h
    split at h
    · rename_i j ls st h1 h2 h3
      split at h
      · rename_i e
        subst e
        cases h
        have ih := handed_ok r h3
        refine ⟨fun i hi => ?_, fun k v hk => ?_, fun q hq => ?_, fun hp => ?_⟩
        · rcases List.mem_cons.1 hi with rfl | hi
          · exact ⟨ls, h1, h2⟩
          · exact ih.ptr i hi
        · simp only [St.get] at hk
          split at hk
          · rename_i e
            cases hk
            exact .inl ⟨j, List.mem_cons_self, e.symm, rfl⟩
          · split at hk
            · rename_i e
              cases hk
              exact .inr ⟨j, List.mem_cons_self, ls, e.symm, rfl, h2⟩
            · rcases ih.get k v hk with ⟨i, hi, b⟩ | ⟨i, hi, b⟩
              · exact .inl ⟨i, List.mem_cons_of_mem _ hi, b⟩
              · exact .inr ⟨i, List.mem_cons_of_mem _ hi, b⟩
        · rcases List.mem_cons.1 hq with rfl | hq
          · exact ⟨j, List.mem_cons_self, .inl rfl⟩
          · rcases List.mem_cons.1 hq with rfl | hq
            · exact ⟨j, List.mem_cons_self, .inr rfl⟩
            · obtain ⟨i, hi, b⟩ := ih.key q hq
              exact ⟨i, List.mem_cons_of_mem _ hi, b⟩
        · obtain ⟨p1, p2⟩ := List.pairwise_cons.1 hp
          have hlow : ∀ q ∈ st, 2 * (j + 1) + 1 < q.1 := fun q hq => by
            obtain ⟨i, hi, b⟩ := ih.key q hq
            have := p1 i hi
            omega
          refine List.pairwise_cons.2 ⟨fun q hq => ?_, List.pairwise_cons.2 ⟨fun q hq => hlow q hq, ih.asc p2⟩⟩
          rcases List.mem_cons.1 hq with rfl | hq
          · show 2 * (j + 1) < 2 * (j + 1) + 1; omega
          · have := hlow q hq; show 2 * (j + 1) < q.1; omega
      · cases h
    · cases h
/-- The names at a function's end. -/
def finOwn (ptrs : List Nat) (pid : Option Nat) (own : Nat → Option Tag) : Nat → Option Tag := fun b => match own b with
  | some (.box id) => if id ∈ ptrs then some (.box (id + 1)) else if pid = some id then some (.box 0) else none
  | some (.leaf id off) => if id ∈ ptrs then some (.leaf (id + 1) off) else if pid = some id then some (.leaf 0 off) else none
  | some (.fl n) => if pid = none then some (.leaf 0 n) else none
  | none => none
theorem finOwn_some {ptrs : List Nat} {pid : Option Nat} {b : Nat} {t : Tag} (h : finOwn ptrs pid own b = some t) : ∃ u, own b = some u := by
  unfold finOwn at h
  cases ho : own b with
  | none => rw [ho] at h; cases h
  | some u => exact ⟨u, rfl⟩
theorem fin_core (hm : RM C σ w Im D own) (ht : RT C nt σ w Im D a) {ptrs : List Nat} {hs : St} (hh : handed σ ptrs = some hs) (hpw : ptrs.Pairwise (· < ·)) {vals : List Value} (hargs : ∀ i ∈ ptrs, ∃ p, C.args i = some p ∧ vals[i]? = some p)
    {pid : Option Nat} {u0 : V} {v0 : Value} {virt0 : Bool} {ls0 : List Lf} {sd0 : SD} (hs0 : SlotOk w Im C.Pn virt0 ls0 sd0) (hb0 : virt0 = false → finOwn ptrs pid own sd0.b = some (.box 0))
    (hf0 : ∀ (i : Nat) (f : List Nat) (x : Nat), sd0.fs[i]? = some f → x ∈ f → finOwn ptrs pid own x = some (.leaf 0 i))
    (hv0 : ∀ σF DF, σF.get 1 = some (.slot virt0 ls0) → DF 0 = sd0 → VOk w Im C.Pn σF DF u0 v0) :
    R { C with args := fun _ => none } (vals.length + 1) ((0, u0) :: (1, .slot virt0 ls0) :: hs) ⟨(v0 :: vals).toArray, []⟩ w := by
  have H := handed_ok ptrs hh
  let DF : Nat → SD := fun j => match j with
    | 0 => sd0
    | i + 1 => D i
  have hget : ∀ k v, St.get ((0, u0) :: (1, .slot virt0 ls0) :: hs) k = some v → (k = 0 ∧ v = u0) ∨ (k = 1 ∧ v = .slot virt0 ls0) ∨ hs.get k = some v := fun k v hk => by
    simp only [St.get] at hk
    split at hk
    · rename_i e; cases hk; exact .inl ⟨e.symm, rfl⟩
    · split at hk
      · rename_i e; cases hk; exact .inr (.inl ⟨e.symm, rfl⟩)
      · exact .inr (.inr hk)
  have hlow : ∀ q ∈ hs, 1 < q.1 := fun q hq => by
    obtain ⟨i, _, b⟩ := H.key q hq
    omega
  refine ⟨Im, DF, finOwn ptrs pid own, ⟨?_, hm.os, hm.tape, hm.output, hm.size, hm.frame, hm.imlt, hm.imfrom, hm.ima, hm.pna, fun b t hb => ?_, fun id virt ls hg => ?_⟩, ⟨fun t v hg => ?_, rfl, by simp, fun i p hi => by cases hi⟩⟩
  · refine List.pairwise_cons.2 ⟨fun q hq => ?_, List.pairwise_cons.2 ⟨fun q hq => hlow q hq, H.asc hpw⟩⟩
    rcases List.mem_cons.1 hq with rfl | hq
    · exact Nat.one_pos
    · have := hlow q hq; show 0 < q.1; omega
  · obtain ⟨u, hu⟩ := finOwn_some hb
    exact hm.ow b u hu
  · rcases hget _ _ hg with ⟨h, _⟩ | ⟨h, e⟩ | h
    · omega
    · have h0 : id = 0 := by omega
      subst h0
      cases e
      exact ⟨hs0, hb0, hf0⟩
    · rcases H.get _ _ h with ⟨i, _, e, _⟩ | ⟨i, hi, ls', e, e', hg'⟩
      · omega
      · have h0 : id = i + 1 := by omega
        subst h0
        cases e'
        obtain ⟨s1, s2, s3⟩ := hm.slot i false ls hg'
        exact ⟨s1, fun hv => by simp only [finOwn, DF, s2 hv, if_pos hi], fun j f x hf hx => by simp only [finOwn, s3 j f x hf hx, if_pos hi]⟩
  · rcases hget _ _ hg with ⟨h, e⟩ | ⟨h, _⟩ | h
    · have h0 : t = 0 := by omega
      subst h0
      subst e
      exact ⟨v0, by simp, hv0 _ _ (by simp [St.get]) rfl⟩
    · omega
    · rcases H.get _ _ h with ⟨i, hi, e, e'⟩ | ⟨i, _, _, e, _⟩
      · have h0 : t = i + 1 := by omega
        subst h0
        subst e'
        obtain ⟨p, p1, p2⟩ := hargs i hi
        obtain ⟨ls, g1, g2⟩ := H.ptr i hi
        obtain ⟨cv, c1, c2⟩ := ht.temp i _ g1
        have hp := ht.keep i p p1
        have hcv : cv = p := by rw [hp] at c1; cases c1; rfl
        subst hcv
        refine ⟨cv, by simpa using p2, ?_⟩
        intro ls' _
        exact c2 ls g2
      · omega
theorem packW_ok {ws : List (Bool × List Lf)} {us : List Value} {css : List (List Value)} (hwl : ws.length = us.length) (hk : ∀ (j : Nat) p, ws[j]? = some p → ∃ v cs, us[j]? = some v ∧ css[j]? = some cs ∧ TupOk w Im Pn σ D p v cs) :
    VOk w Im Pn σ D (packW ws) (oneOf us) := by
  have tup : oneOf us = .tuple us.toArray → VOk w Im Pn σ D (.tup ws) (oneOf us) := fun hus => by
    refine ⟨us, hus, All2.of_get hwl fun i p hp => ?_⟩
    obtain ⟨v, cs, b1, b2, b3⟩ := hk i p hp
    refine ⟨v, b1, ?_⟩
    obtain ⟨b, ls⟩ := p
    cases b with
    | true => exact ⟨cs, b3.1, b3.2⟩
    | false =>
      obtain ⟨l, e1, e2, e3⟩ := b3
      exact ⟨l, e1, e3⟩
  match ws, us, hwl, hk, tup with
  | [], [], _, _, tup => exact tup rfl
  | [(true, ls)], [u], _, hk, _ =>
    obtain ⟨v, cs, b1, b2, b3, b4⟩ := hk 0 _ rfl
    have : u = v := by simpa using b1
    subst this
    exact ⟨cs, b3, b4⟩
  | [(false, ls)], [u], _, hk, _ =>
    obtain ⟨v, cs, b1, b2, l', e1, e2, e3⟩ := hk 0 _ rfl
    have : u = v := by simpa using b1
    subst this
    simp only at e1
    subst e1
    exact e3
  | p :: q :: r, u :: v :: s, _, _, tup =>
    have := tup rfl
    obtain ⟨b, ls⟩ := p
    cases b with
    | true => exact this
    | false =>
      cases ls with
      | nil => exact this
      | cons l ls => cases ls <;> exact this
theorem finK_ok {fn : Func} {ptrs : List Nat} {β : Type} {K : St → Option β} {r : β} (h : finK fn P ptrs σ K = some r) (hpw : ptrs.Pairwise (· < ·)) :
    ∃ res, K res = some r ∧ ∀ (C : Ct) (nt : Nat) (vals : List Value) (a : Act) (w : World), (∀ i ∈ ptrs, ∃ p, C.args i = some p ∧ vals[i]? = some p) → R C nt σ a w →
      ∃ v, (results fn a.tmps).run P w = .ok v w ∧ R { C with args := fun _ => none } (vals.length + 1) res ⟨(v :: vals).toArray, []⟩ w := by
  unfold finK at h
  split at h
  · cases h
  · rename_i vs hvs
    split at h
    · rename_i id
      split at h
      · rename_i ls hg
        split at h
        · rename_i hs hh
          refine ⟨_, h, fun C nt vals a w hargs hR => ?_⟩
          obtain ⟨Im, D, own, hm, ht⟩ := hR
          obtain ⟨us, css, m1, m2, m3, m4, m5⟩ := resVs_ok hm ht _ hvs
          obtain ⟨v, cs, a1, a2, l, e1, e2, e3⟩ := m5 0 _ rfl
          simp only [List.cons.injEq, and_true] at e1
          subst e1
          have hus : us = [v] := by
            match us, m3, a1 with
            | [u], _, a1 => simp at a1; rw [a1]
          subst hus
          refine ⟨v, run_results m1 m2, ?_⟩
          have hdel : ∀ k v, (σ.del (2 * id + 1)).get k = some v → σ.get k = some v := fun k v hk => by
            have := St.get_set σ k (2 * id + 1) none
            simp only [St.set] at this
            rw [this] at hk
            split at hk
            · cases hk
            · exact hk
          have hasc : (σ.del (2 * id + 1)).Asc := hm.asc.del _
          have hm1 : RM C (σ.del (2 * id + 1)) w Im D own := hm.sub hasc fun j virt ls hj => hdel _ _ hj
          have ht1 : RT C nt (σ.del (2 * id + 1)) w Im D a := RT.sub hm ht (fun t v hj => hdel _ _ hj) fun j virt ls hj => hdel _ _ hj
          have hnot : id ∉ ptrs := fun hi => by
            obtain ⟨ls', _, g2⟩ := (handed_ok ptrs hh).ptr id hi
            rw [St.get_del_same] at g2
            cases g2
          obtain ⟨s1, s2, s3⟩ := hm.slot id false ls hg
          refine fin_core (pid := some id) (sd0 := D id) hm1 ht1 hh hpw hargs s1 (fun hv => ?_) (fun i f x hf hx => ?_) (fun σF DF hF hDF => ?_)
          · simp only [finOwn, s2 hv, if_neg hnot, if_true]
          · simp only [finOwn, s3 i f x hf hx, if_neg hnot, if_true]
          · intro ls' _
            rw [hDF]
            exact e3 ls hg
        · cases h
      · cases h
    · rename_i vs hne
      split at h
      · rename_i σ1 ws os ho
        split at h
        · rename_i hs hh
          refine ⟨_, h, fun C nt vals a w hargs hR => ?_⟩
          obtain ⟨Im, D, own, hm, ht⟩ := hR
          obtain ⟨us, css, m1, m2, m3, m4, m5⟩ := resVs_ok hm ht _ hvs
          obtain ⟨Im', D', own', fs, ext, tk, k1, k2⟩ := outVs_ok _ hm ht ho m3 m4 m5
          refine ⟨oneOf us, run_results m1 m2, ?_⟩
          obtain ⟨t1, t2, t3⟩ := tk.get
          have main := fin_core (pid := none) (u0 := packW ws) (v0 := oneOf us) (virt0 := true) (ls0 := os) (sd0 := ⟨0, css.flatten, fs⟩) ext.rm ext.rt hh hpw hargs ⟨fun h => (by cases h), t1, t2, fun i l hl => by
              obtain ⟨v, f, b1, b2, b3, _⟩ := t3 i l hl
              exact ⟨v, f, b1, b2, b3⟩⟩ (fun h => by cases h) (fun i f x hf hx => by
              have hi : i < os.length := by rw [← t2]; exact (List.getElem?_eq_some_iff.1 hf).1
              obtain ⟨v, f', b1, b2, b3, b4⟩ := t3 i os[i] (List.getElem?_eq_getElem hi)
              have hff : f' = f := by rw [hf] at b2; cases b2; rfl
              subst hff
              simp only [finOwn, b4 x hx, if_true, Nat.zero_add]) (fun σF DF hF hDF => packW_ok (k1.trans m3) (k2 Im' (fun _ h => h) σF DF fun i hi => by rw [hDF, Nat.zero_add]))
          split
          · refine main.sub ?_ fun k v hk => ?_
            · have := main.asc
              exact List.Pairwise.sublist (List.Sublist.cons_cons _ (List.sublist_cons_self _ _)) this
            · simp only [St.get] at hk ⊢
              split at hk
              · rename_i e; rw [if_pos e]; exact hk
              · rename_i e
                rw [if_neg e]
                split
                · rename_i e1
                  exfalso
                  have hm' := St.mem_of_get hk
                  obtain ⟨i, _, b⟩ := (handed_ok ptrs hh).key _ hm'
                  simp only at b
                  omega
                · exact hk
          · exact main
        · cases h
      · cases h
theorem mem_ptrsOf : ∀ {σ : St} {i : Nat}, i ∈ ptrsOf σ ↔ ∃ v, (2 * i + 1, v) ∈ σ
  | [], i => by simp [ptrsOf]
  | (k, u) :: r, i => by
    simp only [ptrsOf]
    split
    · rename_i hk
      simp only [List.mem_cons, mem_ptrsOf (σ := r)]
      constructor
      · rintro (h | ⟨v, h⟩)
        · exact ⟨u, .inl (by rw [show 2 * i + 1 = k by omega])⟩
        · exact ⟨v, .inr h⟩
      · rintro ⟨v, h | h⟩
        · cases h; exact .inl (by omega)
        · exact .inr ⟨v, h⟩
    · rename_i hk
      simp only [List.mem_cons, mem_ptrsOf (σ := r)]
      constructor
      · rintro ⟨v, h⟩; exact ⟨v, .inr h⟩
      · rintro ⟨v, h | h⟩
        · cases h; omega
        · exact ⟨v, h⟩
theorem ptrsOf_lt : ∀ {σ : St}, σ.Asc → (ptrsOf σ).Pairwise (· < ·)
  | [], _ => List.Pairwise.nil
  | (k, u) :: r, h => by
    obtain ⟨h1, h2⟩ := List.pairwise_cons.1 h
    simp only [ptrsOf]
    split
    · refine List.pairwise_cons.2 ⟨fun i hi => ?_, ptrsOf_lt h2⟩
      obtain ⟨v, hv⟩ := mem_ptrsOf.1 hi
      have := h1 _ hv
      simp only at this
      omega
    · exact ptrsOf_lt h2
theorem isSome_of_mem : ∀ {σ : St} {k : Nat} {v : V}, (k, v) ∈ σ → (σ.get k).isSome = true
  | [], k, v, h => by cases h
  | (j, u) :: r, k, v, h => by
    simp only [St.get]
    split
    · rfl
    · rename_i hne
      rcases List.mem_cons.1 h with e | h
      · cases e; exact absurd rfl hne
      · exact isSome_of_mem h
theorem runF_go {f : FuncId} {fn : Func} (hf : P.funcs[f]? = some fn) (hb : fn.body.isNone = false) (hn : (fn.name == "runtime.NumGoroutine") = false) (hmix : P.follows .mixedOrders = true) {fx : Fx} (hp : fx.P = P) (hnt : fx.nt = fn.ntmps)
    {orcK : {β : Type} → FuncId → St → (St → Option β) → Option β} (ho : OrcOk orcK (GoF P)) {lp : Nat → St → (Exit → St → Option St) → Option St} {σ0 : St} (hent : ∀ i ∈ ptrsOf σ0, (σ0.get (2 * i)).isSome = true)
    (hl : ∀ C nt, FxOk P { fx with ptrs := ptrsOf σ0 } nt C → LpOk P C nt lp (loopsOf (bodyOf fn))) (h : runF orcK lp fx fn σ0 some = some σf) : GoF P f σ0 σf := by
  refine ⟨⟨fn, hf, hb, hn⟩, fun C vs hC hR => ?_⟩
  have hasc : σ0.Asc := hR.asc
  have hpw := ptrsOf_lt hasc
  obtain ⟨c, hc⟩ : ∃ c, fn.body = some c := by
    cases h : fn.body with
    | none => rw [h] at hb; cases hb
    | some c => exact ⟨c, rfl⟩
  have hbody : bodyOf fn = c := by simp [bodyOf, hc]
  have hin : ∀ i, i ∈ ptrsOf σ0 → C.args i = vs[i]? := fun i hi => by
    obtain ⟨v, hv⟩ := mem_ptrsOf.1 hi
    rw [hC i, if_pos (isSome_of_mem hv)]
  have hfx : FxOk P { fx with ptrs := ptrsOf σ0 } (vs.length + (fn.ntmps - vs.length)) C := ⟨hp, hmix, by show fx.nt ≤ _; rw [hnt]; omega, fun i p hi => by
    rw [hC i] at hi
    split at hi
    · rename_i hs
      obtain ⟨v, hv⟩ := Option.isSome_iff_exists.1 hs
      exact mem_ptrsOf.2 ⟨v, St.mem_of_get hv⟩
    · cases hi⟩
  have hargs : ∀ i ∈ ptrsOf σ0, ∃ p, C.args i = some p ∧ vs[i]? = some p := fun i hi => by
    obtain ⟨v, hv⟩ := Option.isSome_iff_exists.1 (hent i hi)
    obtain ⟨Im, D, own, hm, ht⟩ := hR
    obtain ⟨cv, h1, _⟩ := ht.temp i v hv
    exact ⟨cv, by rw [hin i hi]; simpa using h1, by simpa using h1⟩
  have hR1 : R C (vs.length + (fn.ntmps - vs.length)) σ0 ⟨vs.toArray ++ Array.replicate (fn.ntmps - vs.toArray.size) undef, []⟩ C.w0 := by
    obtain ⟨Im, D, own, hm, ht⟩ := hR
    refine ⟨Im, D, own, hm, ⟨fun t v hg => ?_, rfl, by simp, fun i p hi => ?_⟩⟩
    · obtain ⟨cv, h1, h2⟩ := ht.temp t v hg
      have hlt := (Array.getElem?_eq_some_iff.1 h1).1
      exact ⟨cv, by simp only at h1 ⊢; rw [Array.getElem?_append_left hlt]; exact h1, h2⟩
    · have h1 := ht.keep i p hi
      have hlt := (Array.getElem?_eq_some_iff.1 h1).1
      simp only at h1 ⊢
      rw [Array.getElem?_append_left hlt]
      exact h1
  unfold runF at h
  dsimp only at h
  obtain ⟨e, σ', k1, k2⟩ := codeK_ok hfx ho _ (hl C _ hfx) h
  have hfin : (e = .normal ∨ e = .ret) ∧ finK fn fx.P (ptrsOf σ0) σ' some = some σf := by
    cases e with
    | normal => exact ⟨.inl rfl, k1⟩
    | ret => exact ⟨.inr rfl, k1⟩
    | _ => cases k1
  obtain ⟨he, hfin⟩ := hfin
  rw [hp] at hfin
  obtain ⟨res, r1, r2⟩ := finK_ok hfin hpw
  cases r1
  refine calls_of_wp hf hc ?_
  rw [hbody] at k2
  refine k2 _ _ hR1 _ fun a' w' hR' => ?_
  obtain ⟨v, v1, v2⟩ := r2 C _ vs a' w' hargs hR'
  have hd : a'.defers = [] := by
    obtain ⟨Im, D, own, hm, ht⟩ := hR'
    exact ht.defers
  rcases he with rfl | rfl <;> exact ⟨hd, v, v1, v, rfl, v2⟩
end Go.Vi
/- What stands behind an evaluation only takes its outcome. -/
namespace Go.Vi
set_option linter.unusedVariables false
set_option linter.unusedSimpArgs false

theorem runK_nat {orc : {β : Type} → FuncId → St → (St → Option β) → Option β} (ho : ∀ {β : Type} f a (K : St → Option β), orc f a K = (orc f a some).bind K) {β : Type} : ∀ (m : M) (σ : St) (l : List Ac) (K : St → List Ac → Option β), m.runK orc σ l K = (m.runK orc σ l fun s l => some (s, l)).bind fun p => K p.1 p.2 := by
  intro m
  induction m with
  | ret => intro σ l K; rfl
  | fail => intro σ l K; rfl
  | rd k f ih => intro σ l K; exact ih _ σ _ K
  | wr k v m ih => intro σ l K; exact ih _ _ K
  | opt o f ih =>
    intro σ l K
    cases o with
    | none => rfl
    | some x => exact ih x σ l K
  | ite b f ih =>
    intro σ l K
    cases b
    · exact ih false σ l K
    · exact ih true σ l K
  | call f a k ih =>
    intro σ l K
    simp only [M.runK]
    rw [ho f a (fun res => (k res).runK orc σ l K), ho f a (fun res => (k res).runK orc σ l fun s l => some (s, l))]
    cases orc f a some with
    | none => rfl
    | some res => exact ih res σ l K
  | kill id off m ih =>
    intro σ l K
    simp only [M.runK]
    split
    · exact ih _ _ K
    · exact ih _ _ K
  | rdS k f ih => intro σ l K; exact ih _ σ _ K
  | upd id off e k xs m ih =>
    intro σ l K
    simp only [M.runK]
    split
    · split
      · split
        · split
          · exact ih _ _ K
          · rfl
        · rfl
      · rfl
    · rfl
theorem opsK_nat {orc : {β : Type} → FuncId → St → (St → Option β) → Option β} (ho : ∀ {β : Type} f a (K : St → Option β), orc f a K = (orc f a some).bind K) {cx : Cx} {ops : Array Oper} {β : Type} {K : St → List (List Ac) → Option β} :
    ∀ (os : List Oper) (σ : St) (ls : List (List Ac)), opsK orc cx ops os σ ls K = (opsK orc cx ops os σ ls fun s l => some (s, l)).bind fun p => K p.1 p.2
  | [], σ, ls => rfl
  | o :: r, σ, ls => by
    have go : ∀ (m : M) (τ : St), (m.runK orc τ [] fun σ' l => opsK orc cx ops r σ' (l :: ls) K) = (m.runK orc τ [] fun σ' l => opsK orc cx ops r σ' (l :: ls) fun s l => some (s, l)).bind fun p => K p.1 p.2 := fun m τ => by
      rw [runK_nat ho m τ [] fun σ' l => opsK orc cx ops r σ' (l :: ls) K, runK_nat ho m τ [] fun σ' l => opsK orc cx ops r σ' (l :: ls) fun s l => some (s, l)]
      cases m.runK orc τ [] fun s l => some (s, l) with
      | none => rfl
      | some p => exact opsK_nat ho r p.1 (p.2 :: ls)
    simp only [opsK]
    split
    · exact go _ _
    · split
      · split
        · split
          · exact go _ _
          · exact go _ _
        · exact go _ _
        · rfl
      · rfl
theorem regionK_nat {orc : {β : Type} → FuncId → St → (St → Option β) → Option β} (ho : ∀ {β : Type} f a (K : St → Option β), orc f a K = (orc f a some).bind K) {fx : Fx} {id : Nat} {ops : Array Oper} {draw : Bool} {σ : St} {β : Type} {K : St → Option β} :
    regionK orc fx id ops draw σ K = (regionK orc fx id ops draw σ some).bind K := by
  unfold regionK
  dsimp only
  split
  · rw [opsK_nat ho]
    conv => rhs; rw [opsK_nat ho]
    generalize opsK orc _ ops ops.toList _ [] (fun s l => some (s, l)) = q
    cases q with
    | none => rfl
    | some p =>
      simp only [Option.bind_some]
      split <;> rfl
  · rfl
theorem codeK_nat {orc : {β : Type} → FuncId → St → (St → Option β) → Option β} (ho : ∀ {β : Type} f a (K : St → Option β), orc f a K = (orc f a some).bind K) {lp : {β : Type} → Nat → St → (Exit → St → Option β) → Option β} {fx : Fx} {β : Type} :
    ∀ (c : Code) (hl : ∀ b ∈ loopsOf c, ∀ {β : Type} σ (K : Exit → St → Option β), lp (keyOf b) σ K = (lp (keyOf b) σ fun e s => some (e, s)).bind fun p => K p.1 p.2) (σ : St) (K : Exit → St → Option β), codeK orc lp fx c σ K = (codeK orc lp fx c σ fun e s => some (e, s)).bind fun p => K p.1 p.2
  | .skip, _, σ, K => rfl
  | .region id ops draw, _, σ, K => by
    simp only [codeK]
    rw [regionK_nat ho, regionK_nat ho (K := fun σ' => some (Exit.normal, σ'))]
    cases regionK orc fx id ops draw σ some <;> rfl
  | .seq a b, hl, σ, K => by
    simp only [codeK]
    rw [codeK_nat ho a (fun b hb => hl b (List.mem_append_left _ hb)) σ]
    conv => rhs; rw [codeK_nat ho a (fun b hb => hl b (List.mem_append_left _ hb)) σ]
    cases codeK orc lp fx a σ fun e s => some (e, s) with
    | none => rfl
    | some p =>
      obtain ⟨e, s⟩ := p
      cases e with
      | normal => exact codeK_nat ho b (fun b hb => hl b (List.mem_append_right _ hb)) s K
      | _ => rfl
  | .cond c a b, hl, σ, K => by
    simp only [codeK]
    split
    · split
      · split
        · exact codeK_nat ho a (fun b hb => hl b (List.mem_append_left _ hb)) σ K
        · exact codeK_nat ho b (fun b hb => hl b (List.mem_append_right _ hb)) σ K
      · rfl
    · rfl
  | .block id b, hl, σ, K => by
    simp only [codeK]
    rw [codeK_nat ho b hl σ]
    conv => rhs; rw [codeK_nat ho b hl σ]
    cases codeK orc lp fx b σ fun e s => some (e, s) with
    | none => rfl
    | some p =>
      obtain ⟨e, s⟩ := p
      cases e with
      | exit i =>
        simp only [Option.bind_some]
        split <;> rfl
      | _ => rfl
  | .loop b, hl, σ, K => hl b (by simp [loopsOf]) σ K
  | .exit id, _, σ, K => rfl
  | .ret, _, σ, K => rfl
  | .label _, _, _, _ => rfl
  | .goto _, _, _, _ => rfl
  | .refuse _, _, _, _ => rfl
  | .scope _, _, _, _ => rfl
  | .rangeFunc _ _ _ _, _, _, _ => rfl
theorem finK_nat {fn : Func} {P : Program} {ptrs : List Nat} {σ : St} {β : Type} {K : St → Option β} : finK fn P ptrs σ K = (finK fn P ptrs σ some).bind K := by
  unfold finK
  split
  · rfl
  · split
    · split
      · split <;> rfl
      · rfl
    · split
      · split <;> rfl
      · rfl
theorem runF_nat {orc : {β : Type} → FuncId → St → (St → Option β) → Option β} (ho : ∀ {β : Type} f a (K : St → Option β), orc f a K = (orc f a some).bind K) {lp : {β : Type} → Nat → St → (Exit → St → Option β) → Option β} {fn : Func} (hl : ∀ b ∈ loopsOf (bodyOf fn), ∀ {β : Type} σ (K : Exit → St → Option β), lp (keyOf b) σ K = (lp (keyOf b) σ fun e s => some (e, s)).bind fun p => K p.1 p.2) {fx : Fx} {σ : St} {β : Type} {K : St → Option β} :
    runF orc lp fx fn σ K = (runF orc lp fx fn σ some).bind K := by
  unfold runF
  dsimp only
  rw [codeK_nat ho _ hl]
  conv => rhs; rw [codeK_nat ho _ hl]
  generalize codeK orc lp _ (bodyOf fn) σ (fun e s => some (e, s)) = q
  cases q with
  | none => rfl
  | some p =>
    obtain ⟨e, s⟩ := p
    cases e with
    | normal => exact finK_nat
    | ret => exact finK_nat
    | _ => rfl
/-- An oracle whose outcomes are right. -/
theorem OrcOk.of {P : Program} {orc : {β : Type} → FuncId → St → (St → Option β) → Option β} (ho : ∀ {β : Type} f a (K : St → Option β), orc f a K = (orc f a some).bind K) (h : ∀ f a res, orc f a some = some res → GoF P f a res) : OrcOk orc (GoF P) := fun f a K r hr => by
  have hr : orc f a K = some r := hr
  rw [ho f a K] at hr
  obtain ⟨res, h1, h2⟩ := Option.bind_eq_some_iff.1 hr
  exact ⟨res, h f a res h1, h2⟩
end Go.Vi
/- Loops' rounds are natural, too. -/
namespace Go.Vi
theorem round_nat {orc : {β : Type} → FuncId → St → (St → Option β) → Option β} (ho : ∀ {β : Type} f a (K : St → Option β), orc f a K = (orc f a some).bind K)
    {lp : {β : Type} → Nat → St → (Exit → St → Option β) → Option β} {b : Code} (hl : ∀ q ∈ loopsOf b, ∀ {β : Type} σ (K : Exit → St → Option β), lp (keyOf q) σ K = (lp (keyOf q) σ fun e s => some (e, s)).bind fun p => K p.1 p.2) {fx : Fx} {σ : St} {β : Type} {K : Exit → St → Option β}
    {L : {β : Type} → St → (Exit → St → Option β) → Option β} (ih : ∀ σ, L σ K = (L σ fun e s => some (e, s)).bind fun p => K p.1 p.2) :
    codeK orc lp fx b σ (roundK L K) = (codeK orc lp fx b σ (roundK L fun e s => some (e, s))).bind fun p => K p.1 p.2 := by
  rw [codeK_nat ho b hl, codeK_nat ho b hl σ (roundK L fun e s => some (e, s))]
  cases codeK orc lp fx b σ fun e s => some (e, s) with
  | none => rfl
  | some p =>
    obtain ⟨e, s⟩ := p
    cases e with
    | normal => exact ih s
    | _ => rfl
end Go.Vi
/- A law's call. -/
namespace Go.Vi
open Go.RowKit
set_option linter.unusedVariables false
variable {P : Program} {σ0 : St}
/-- A function that owns nothing and answers 'true', called. -/
theorem GoF.law {f : FuncId} (h : GoF P f σ0 [(0, .one (.sc (.bool true)))]) (hasc : σ0.Asc) {W : World} {args : List Value} (hodd : ∀ i, (σ0.get (2 * i + 1)) = none)
    (ht : ∀ t v, σ0.get (2 * t) = some v → ∃ cv, args[t]? = some cv ∧ VOk W (fun b => b < W.heap.size) (fun b => b < W.heap.size) σ0 (fun _ => ⟨0, [], []⟩) v cv) :
    Calls P f args.toArray W fun e W' => e = .returned (.bool true) ∧ Below W.heap.size W W' := by
  let C : Ct := ⟨W, fun _ => False, fun b => b < W.heap.size, fun b => b < W.heap.size, fun _ => none⟩
  have hR : R C args.length σ0 ⟨args.toArray, []⟩ C.w0 := by
    refine ⟨fun b => b < W.heap.size, fun _ => ⟨0, [], []⟩, fun _ => none, ⟨hasc, rfl, rfl, rfl, Nat.le_refl _, fun _ _ _ => rfl, fun _ h => h, fun _ h => .inl h, fun _ h => h, fun _ h => h, fun b t hb => (by cases hb), fun id virt ls hg => ?_⟩, ⟨fun t v hg => ?_, rfl, by simp, fun i p hi => by cases hi⟩⟩
    · rw [hodd id] at hg; cases hg
    · obtain ⟨cv, h1, h2⟩ := ht t v hg
      exact ⟨cv, by simpa using h1, h2⟩
  refine (h.2 C args (fun i => by rw [hodd i]; rfl) hR).mono fun e W' he => ?_
  obtain ⟨v, rfl, Im, D, own, hm, htt⟩ := he
  obtain ⟨cv, c1, c2⟩ := htt.temp 0 _ rfl
  have hv : cv = v := by simpa using c1.symm
  subst hv
  exact ⟨by rw [c2.1], hm.os, hm.tape, hm.output, hm.size, fun k hk => hm.frame k hk fun h => h⟩
end Go.Vi
/- An argument that can be read, opened as a typed value. -/
namespace Go.Vi
open Go.RowKit Go.Deep
set_option linter.unusedVariables false
variable {P : Program}
def wfK : (k : Kd) → k.T → Prop
  | .int kk, n => (Lit.int kk n).wf = true
  | .bool, _ => True
  | .val, _ => True
  | .pair a b, x => wfK a x.1 ∧ wfK b x.2
  | .fz e k, xs => xs.length ≤ maxLen ∧ ∀ x ∈ xs, wfK k x
  | .ow e k, o => ∀ xs, o = some xs → xs.length ≤ maxLen ∧ ∀ x ∈ xs, wfK k x
/-- Whatever reads by the type t is a value of the kind k. -/
def Opn (P : Program) (t : TypeId) (k : Kd) : Prop :=
  P.cellsOf t = k.w ∧ ∀ (H : Type) (enc : TypeId × Value → H) (w : World) (base : Nat) (sp : Nat → Bool) (hd : Bool) (fuel : Nat) (cs : List Value) (x : DataW H × List MemPlace),
    DataW.trod enc P w base sp hd fuel t cs = some x → ∃ a f, RepK w (fun b => b < w.heap.size) k a cs f ∧ (∀ b ∈ f, b < w.heap.size) ∧ wfK k a
theorem Opn.int {t : TypeId} {k : IntKind} (ht : P.underlying t = some (.int k)) (hc : P.cellsOf t = 1) : Opn P t (.int k) :=
  ⟨hc, fun H enc w base sp hd fuel cs x h => by obtain ⟨n, rfl, _, hw⟩ := DataW.trod_int ht h; exact ⟨n, [], ⟨rfl, rfl⟩, fun b hb => (by cases hb), hw⟩⟩
theorem Opn.bool {t : TypeId} (ht : P.underlying t = some .bool) (hc : P.cellsOf t = 1) : Opn P t .bool :=
  ⟨hc, fun H enc w base sp hd fuel cs x h => by obtain ⟨n, rfl, _⟩ := DataW.trod_bool ht h; exact ⟨n, [], ⟨rfl, rfl⟩, fun b hb => (by cases hb), trivial⟩⟩
theorem Opn.slice {t e : TypeId} {k : Kd} (ht : P.underlying t = some (.slice e)) (hc : P.cellsOf t = 1) (he : Opn P e k) : Opn P t (.fz e k) := by
  refine ⟨hc, fun H enc w base sp hd fuel cs x h => ?_⟩
  rcases open_slice ht h with ⟨rfl, _⟩ | ⟨a, len, cap, m, n, D, Pl, rfl, hb, hl, hm, hmm, _, hx⟩
  · exact ⟨([] : List k.T), [], ⟨_, rfl, rfl, .inl ⟨rfl, none, 0, rfl⟩⟩, fun b hb => (by cases hb), by simp, fun x hx => by cases hx⟩
  · have hlm : len ≤ m := by rw [hmm]; split <;> omega
    have each : ∀ i : Fin len, ∃ p : k.T × List Nat × List Value, w.cells? base (a.add (i.1 * P.cellsOf e)) (P.cellsOf e) = some p.2.2 ∧ RepK w (fun b => b < w.heap.size) k p.1 p.2.2 p.2.1 ∧ (∀ b ∈ p.2.1, b < w.heap.size) ∧ wfK k p.1 := by
      intro i
      obtain ⟨cs', h1, h2⟩ := hx i.1 (by omega)
      obtain ⟨p, f, h3, h4, h5⟩ := he.2 H enc w base sp hd n cs' _ h2
      exact ⟨(p, f, cs'), h1, h3, h4, h5⟩
    obtain ⟨g, hg⟩ := Classical.axiomOfChoice each
    have hwf : ((List.ofFn fun i => (g i).1) : List k.T).length ≤ maxLen ∧ ∀ x ∈ (List.ofFn fun i => (g i).1), wfK k x := by
      refine ⟨by simp; omega, fun x hx => ?_⟩
      obtain ⟨i, rfl⟩ := List.mem_ofFn.1 hx
      exact (hg i).2.2.2
    refine ⟨(List.ofFn fun i => (g i).1 : List k.T), [], ⟨_, rfl, rfl, ?_⟩, fun b hb => (by cases hb), hwf⟩
    cases len with
    | zero => exact .inl ⟨by simp, some a, cap, rfl⟩
    | succ len =>
      have hpos := Kd.w_pos k
      -- each cell of each element
      have cell : ∀ (i : Fin (len + 1)) (j : Nat) u, (g i).2.2[j]? = some u → w.cell? (a.add (i.1 * k.w + j)) = some u := fun i j u hu => by
        obtain ⟨h1, h2, _⟩ := hg i
        obtain ⟨_, h4, h5⟩ := World.cells?_some h1
        rw [he.1] at h4 h5
        have hj : j < k.w := by rw [← h4]; exact (List.getElem?_eq_some_iff.1 hu).1
        have := h5 j hj
        rw [Deep.add_add] at this
        rw [this, hu]
      have hlen : ∀ i : Fin (len + 1), (g i).2.2.length = k.w := fun i => (hg i).2.1.length
      have hl0 : 0 < (g ⟨0, Nat.succ_pos len⟩).2.2.length := by rw [hlen]; exact hpos
      obtain ⟨u0, hu0⟩ : ∃ u, (g ⟨0, Nat.succ_pos len⟩).2.2[0]? = some u := ⟨_, List.getElem?_eq_getElem hl0⟩
      have h0 := cell ⟨0, Nat.succ_pos len⟩ 0 u0 hu0
      simp only [Nat.zero_mul, Nat.zero_add] at h0
      obtain ⟨b, o, sp⟩ := a
      simp only [Addr.add, if_true, World.cell?] at h0
      split at h0
      · rename_i arr el fr hh
        split at h0
        · cases h0
        · rename_i hsp
          have hsp : sp = none := by simpa using hsp
          subst hsp
          have at_ : ∀ (i : Fin (len + 1)) (j : Nat) u, (g i).2.2[j]? = some u → arr.toList[o + (i.1 * k.w + j)]? = some u := fun i j u hu => by
            have := cell i j u hu
            simp only [Addr.add] at this
            split at this
            · rename_i hz
              simp only [World.cell?, hh] at this
              rw [hz, Nat.add_zero]
              simpa using this
            · simp only [World.cell?, hh] at this
              simpa using this
          have helem : ∀ (i : Fin (len + 1)), (((arr.toList.drop o).take ((len + 1) * k.w)).drop (i.1 * k.w)).take k.w = (g i).2.2 := fun i => by
            have hik : i.1 * k.w + k.w ≤ (len + 1) * k.w := by
              have := Nat.mul_le_mul_right k.w (show i.1 + 1 ≤ len + 1 from i.2)
              rwa [Nat.add_mul, Nat.one_mul] at this
            apply List.ext_getElem?
            intro j
            rw [List.getElem?_take, List.getElem?_drop, List.getElem?_take, List.getElem?_drop]
            by_cases hj : j < k.w
            · rw [if_pos hj, if_pos (by omega)]
              have hjl : j < (g i).2.2.length := by rw [hlen]; exact hj
              rw [List.getElem?_eq_getElem hjl]
              exact at_ i j _ (List.getElem?_eq_getElem hjl)
            · rw [if_neg hj, List.getElem?_eq_none (by rw [hlen]; omega)]
          refine .inr ⟨b, o, cap, arr, el, fr, List.ofFn fun i => (g i).2.1, by simp, by simpa using hl, hh, (Array.getElem?_eq_some_iff.1 hh).1, ⟨?_, by simp, fun i x hx => ?_⟩, fun f hf x hx => ?_⟩
          · have hll : k.w - 1 < (g ⟨len, Nat.lt_succ_self len⟩).2.2.length := by rw [hlen]; omega
            have h1 := at_ ⟨len, Nat.lt_succ_self len⟩ (k.w - 1) _ (List.getElem?_eq_getElem hll)
            have h2 := (List.getElem?_eq_some_iff.1 h1).1
            simp only at h2
            rw [List.length_take, List.length_drop, List.length_ofFn]
            have : (len + 1) * k.w = len * k.w + k.w := by rw [Nat.add_mul, Nat.one_mul]
            omega
          · obtain ⟨hi, hxe⟩ := List.getElem?_eq_some_iff.1 hx
            rw [List.length_ofFn] at hi
            rw [List.getElem_ofFn] at hxe
            refine ⟨(g ⟨i, hi⟩).2.1, by rw [List.getElem?_ofFn, dif_pos hi], ?_⟩
            rw [List.length_ofFn, helem ⟨i, hi⟩, ← hxe]
            exact (hg ⟨i, hi⟩).2.1
          · obtain ⟨i, rfl⟩ := List.mem_ofFn.1 hf
            exact (hg i).2.2.1 x hx
      · cases h0

/-- The fields from one on. -/
def OpnL (P : Program) (fs : List Field) (off : Nat) (k : Kd) : Prop :=
  ∀ (H : Type) (enc : TypeId × Value → H) (w : World) (base : Nat) (sp : Nat → Bool) (hd : Bool) (fuel : Nat) (cs : List Value), cs.length = off + k.w →
    (∀ f ∈ fs, ∃ x : DataW H × List MemPlace, DataW.trod enc P w base sp hd fuel f.type ((cs.drop f.offset).take (P.cellsOf f.type)) = some x) → ∃ a f, RepK w (fun b => b < w.heap.size) k a (cs.drop off) f ∧ (∀ b ∈ f, b < w.heap.size) ∧ wfK k a
theorem OpnL.one {f : Field} {off : Nat} {k : Kd} (ho : f.offset = off) (h : Opn P f.type k) : OpnL P [f] off k := by
  intro H enc w base sp hd fuel cs hl hf
  obtain ⟨x, hx⟩ := hf f (by simp)
  rw [ho, h.1, List.take_of_length_le (by simp; omega)] at hx
  exact h.2 H enc w base sp hd fuel _ x hx
theorem OpnL.cons {f : Field} {fs : List Field} {off : Nat} {ka kb : Kd} (ho : f.offset = off) (h : Opn P f.type ka) (hr : OpnL P fs (off + ka.w) kb) : OpnL P (f :: fs) off (.pair ka kb) := by
  intro H enc w base sp hd fuel cs hl hf
  have hl : cs.length = off + (ka.w + kb.w) := hl
  obtain ⟨x, hx⟩ := hf f (by simp)
  rw [ho, h.1] at hx
  obtain ⟨a, f1, h1, g1, h2⟩ := h.2 H enc w base sp hd fuel _ x hx
  obtain ⟨b, f2, h3, g2, h4⟩ := hr H enc w base sp hd fuel cs (by omega) (fun g hg => hf g (by simp [hg]))
  refine ⟨(a, b), f1 ++ f2, ⟨f1, f2, h1, by rw [List.drop_drop]; exact h3, rfl⟩, fun x hx => (List.mem_append.1 hx).elim (g1 x) (g2 x), h2, h4⟩
theorem Opn.struct {t : TypeId} {fs : Array Field} {k : Kd} (ht : P.underlying t = some (.struct fs)) (hc : P.cellsOf t = k.w) (hL : OpnL P fs.toList 0 k) : Opn P t k := by
  refine ⟨hc, fun H enc w base sp hd fuel cs x h => ?_⟩
  obtain ⟨xs, n, _, _, hlen, hxl, hf⟩ := DataW.trod_struct ht h
  have := hL H enc w base sp hd n cs (by rw [hlen, hc]; omega) (fun f hfm => by
    obtain ⟨i, hi⟩ := List.getElem?_of_mem hfm
    have hi' : fs[i]? = some f := by simpa using hi
    have h2 := hf i f hi'
    have hlt : i < xs.length := by rw [hxl]; exact (Array.getElem?_eq_some_iff.1 hi').1
    rw [List.getElem?_eq_getElem hlt] at h2
    exact ⟨_, h2⟩)
  simpa using this
/-- An argument of that type. -/
theorem Opn.arg {t : TypeId} {k : Kd} (h : Opn P t k) {H : Type} {enc : TypeId × Value → H} {w : World} {base : Nat} {sp : Nat → Bool} {hd : Bool} {v : Value} {d : DataW H} {ps : List MemPlace}
    (hT : DataW.Trod enc P w base sp hd t v d ps) : ∃ a f, RepK w (fun b => b < w.heap.size) k a v.cells.toList f ∧ (∀ b ∈ f, b < w.heap.size) ∧ wfK k a := by
  obtain ⟨fuel, hf⟩ := hT
  exact h.2 H enc w base sp hd fuel _ _ hf
end Go.Vi
/- Shapes of states, and their letters. -/
namespace Go.Vi
set_option linter.unusedVariables false
inductive PL where
  | int (k : IntKind) | bool | raw | nil (e : TypeId) (k : Kd) | lst (m : Md) (e : TypeId) (k : Kd) | view (id off : Nat) | addr (id off : Nat) | eaddr (id off o : Nat) | faddr (k : Kd) (o : Nat) | undef
@[reducible] def PL.app : PL → Type → Type
  | .int _, R => Int × R
  | .bool, R => Bool × R
  | .raw, R => Value × R
  | .lst _ _ k, R => List k.T × R
  | .eaddr _ _ _, R => Nat × R
  | .faddr k _, R => k.T × R
  | .nil _ _, R => R
  | .view _ _, R => R
  | .addr _ _, R => R
  | .undef, R => R
def PL.mk {R : Type} : (p : PL) → p.app R → Lf × R
  | .int k, x => (.sc (.int k x.1), x.2)
  | .bool, x => (.sc (.bool x.1), x.2)
  | .raw, x => (.sc x.1, x.2)
  | .nil e k, x => (.nil e k, x)
  | .lst m e k, x => (.lst m e k x.1, x.2)
  | .view id off, x => (.view id off, x)
  | .addr id off, x => (.addr id off, x)
  | .eaddr id off o, x => (.eaddr id off x.1 o, x.2)
  | .faddr k o, x => (.faddr k x.1 o, x.2)
  | .undef, x => (.undef, x)
def PL.dec {R : Type} (p : PL) (l : Lf) (r : Option R) : Option (p.app R) :=
  match p with
  | .int k => match l with
    | .sc (.int j n) => if j = k then r.map fun r => (n, r) else none
    | _ => none
  | .bool => match l with
    | .sc (.bool b) => r.map fun r => (b, r)
    | _ => none
  | .raw => match l with
    | .sc v => r.map fun r => (v, r)
    | _ => none
  | .nil e k => match l with
    | .nil e' k' => if e' = e then match Kd.eq? k' k with
      | some _ => r
      | none => none
      else none
    | _ => none
  | .lst m e k => match l with
    | .lst m' e' k' xs => if m' = m then if e' = e then match Kd.eq? k' k with
      | some ⟨h⟩ => r.map fun r => (castL h xs, r)
      | none => none
      else none else none
    | _ => none
  | .view id off => match l with
    | .view i o => if i = id then if o = off then r else none else none
    | _ => none
  | .addr id off => match l with
    | .addr i o => if i = id then if o = off then r else none else none
    | _ => none
  | .eaddr id off o => match l with
    | .eaddr i' f' n o' => if i' = id then if f' = off then if o' = o then r.map fun r => (n, r) else none else none else none
    | _ => none
  | .faddr k o => match l with
    | .faddr k' x o' => if o' = o then match Kd.eq? k' k with
      | some ⟨h⟩ => r.map fun r => (h ▸ x, r)
      | none => none
      else none
    | _ => none
  | .undef => match l with
    | .undef => r
    | _ => none
theorem PL.dec_inv {R : Type} {p : PL} {l : Lf} {r : Option R} {x : p.app R} (h : p.dec l r = some x) : ∃ y, r = some y ∧ p.mk x = (l, y) := by
  cases p with
  | int k =>
    simp only [PL.dec] at h
    split at h
    · split at h
      · rename_i e; subst e
        obtain ⟨y, h1, rfl⟩ := Option.map_eq_some_iff.1 h
        exact ⟨y, h1, rfl⟩
      · cases h
    · cases h
  | bool =>
    simp only [PL.dec] at h
    split at h
    · obtain ⟨y, h1, rfl⟩ := Option.map_eq_some_iff.1 h
      exact ⟨y, h1, rfl⟩
    · cases h
  | raw =>
    simp only [PL.dec] at h
    split at h
    · obtain ⟨y, h1, rfl⟩ := Option.map_eq_some_iff.1 h
      exact ⟨y, h1, rfl⟩
    · cases h
  | nil e k =>
    simp only [PL.dec] at h
    split at h
    · split at h
      · rename_i e1; subst e1
        split at h
        · rename_i q _
          obtain ⟨q⟩ := q
          subst q
          exact ⟨x, h, rfl⟩
        · cases h
      · cases h
    · cases h
  | lst m e k =>
    simp only [PL.dec] at h
    split at h
    · split at h
      · rename_i e0; subst e0
        split at h
        · rename_i e1; subst e1
          split at h
          · rename_i q _
            subst q
            obtain ⟨y, h1, rfl⟩ := Option.map_eq_some_iff.1 h
            exact ⟨y, h1, rfl⟩
          · cases h
        · cases h
      · cases h
    · cases h
  | view id off =>
    simp only [PL.dec] at h
    split at h
    · split at h
      · rename_i e0; subst e0
        split at h
        · rename_i e1; subst e1; exact ⟨x, h, rfl⟩
        · cases h
      · cases h
    · cases h
  | addr id off =>
    simp only [PL.dec] at h
    split at h
    · split at h
      · rename_i e0; subst e0
        split at h
        · rename_i e1; subst e1; exact ⟨x, h, rfl⟩
        · cases h
      · cases h
    · cases h
  | eaddr id off o =>
    simp only [PL.dec] at h
    split at h
    · split at h
      · rename_i e0; subst e0
        split at h
        · rename_i e1; subst e1
          split at h
          · rename_i e2; subst e2
            obtain ⟨y, h1, rfl⟩ := Option.map_eq_some_iff.1 h
            exact ⟨y, h1, rfl⟩
          · cases h
        · cases h
      · cases h
    · cases h
  | faddr k o =>
    simp only [PL.dec] at h
    split at h
    · split at h
      · rename_i e0; subst e0
        split at h
        · rename_i q _
          subst q
          obtain ⟨y, h1, rfl⟩ := Option.map_eq_some_iff.1 h
          exact ⟨y, h1, rfl⟩
        · cases h
      · cases h
    · cases h
  | undef =>
    simp only [PL.dec] at h
    split at h
    · exact ⟨x, h, rfl⟩
    · cases h
@[reducible] def LS.app : List PL → Type → Type
  | [], R => R
  | p :: ps, R => p.app (LS.app ps R)
def LS.mk {R : Type} : (ps : List PL) → LS.app ps R → List Lf × R
  | [], x => ([], x)
  | p :: ps, x => ((p.mk x).1 :: (LS.mk ps (p.mk x).2).1, (LS.mk ps (p.mk x).2).2)
def LS.dec {R : Type} : (ps : List PL) → List Lf → Option R → Option (LS.app ps R)
  | [], [], r => r
  | p :: ps, l :: ls, r => p.dec l (LS.dec ps ls r)
  | [], _ :: _, _ => none
  | _ :: _, [], _ => none
theorem LS.dec_inv {R : Type} : ∀ {ps : List PL} {ls : List Lf} {r : Option R} {x : LS.app ps R}, LS.dec ps ls r = some x → ∃ y, r = some y ∧ LS.mk ps x = (ls, y)
  | [], [], r, x, h => ⟨x, h, rfl⟩
  | p :: ps, l :: ls, r, x, h => by
    obtain ⟨y, h1, h2⟩ := PL.dec_inv (p := p) h
    obtain ⟨z, h3, h4⟩ := LS.dec_inv h1
    exact ⟨z, h3, by simp only [LS.mk, h2, h4]⟩
  | [], _ :: _, _, _, h => by cases h
  | _ :: _, [], _, _, h => by cases h
inductive PV where
  | one (p : PL) | agg (ps : List PL) | tup (us : List (Bool × List PL)) | slot (b : Bool) (ps : List PL)
@[reducible] def TS.app : List (Bool × List PL) → Type → Type
  | [], R => R
  | u :: us, R => LS.app u.2 (TS.app us R)
def TS.mk {R : Type} : (us : List (Bool × List PL)) → TS.app us R → List (Bool × List Lf) × R
  | [], x => ([], x)
  | u :: us, x => ((u.1, (LS.mk u.2 x).1) :: (TS.mk us (LS.mk u.2 x).2).1, (TS.mk us (LS.mk u.2 x).2).2)
def TS.dec {R : Type} : (us : List (Bool × List PL)) → List (Bool × List Lf) → Option R → Option (TS.app us R)
  | [], [], r => r
  | u :: us, v :: vs, r => if v.1 = u.1 then LS.dec u.2 v.2 (TS.dec us vs r) else none
  | [], _ :: _, _ => none
  | _ :: _, [], _ => none
theorem TS.dec_inv {R : Type} : ∀ {us : List (Bool × List PL)} {vs : List (Bool × List Lf)} {r : Option R} {x : TS.app us R}, TS.dec us vs r = some x → ∃ y, r = some y ∧ TS.mk us x = (vs, y)
  | [], [], r, x, h => ⟨x, h, rfl⟩
  | u :: us, v :: vs, r, x, h => by
    simp only [TS.dec] at h
    split at h
    · rename_i e
      obtain ⟨y, h1, h2⟩ := LS.dec_inv h
      obtain ⟨z, h3, h4⟩ := TS.dec_inv h1
      exact ⟨z, h3, by simp only [TS.mk, h2, h4, ← e]⟩
    · cases h
  | [], _ :: _, _, _, h => by cases h
  | _ :: _, [], _, _, h => by cases h
@[reducible] def PV.app : PV → Type → Type
  | .one p, R => p.app R
  | .agg ps, R => LS.app ps R
  | .tup us, R => TS.app us R
  | .slot _ ps, R => LS.app ps R
def PV.mk {R : Type} : (p : PV) → p.app R → V × R
  | .one p, x => (.one (p.mk x).1, (p.mk x).2)
  | .agg ps, x => (.agg (LS.mk ps x).1, (LS.mk ps x).2)
  | .tup us, x => (.tup (TS.mk us x).1, (TS.mk us x).2)
  | .slot b ps, x => (.slot b (LS.mk ps x).1, (LS.mk ps x).2)
def PV.dec {R : Type} (p : PV) (v : V) (r : Option R) : Option (p.app R) :=
  match p with
  | .one p => match v with
    | .one l => p.dec l r
    | _ => none
  | .agg ps => match v with
    | .agg ls => LS.dec ps ls r
    | _ => none
  | .tup us => match v with
    | .tup vs => TS.dec us vs r
    | _ => none
  | .slot b ps => match v with
    | .slot b' ls => if b' = b then LS.dec ps ls r else none
    | _ => none
theorem PV.dec_inv {R : Type} {p : PV} {v : V} {r : Option R} {x : p.app R} (h : p.dec v r = some x) : ∃ y, r = some y ∧ p.mk x = (v, y) := by
  cases p with
  | one p =>
    simp only [PV.dec] at h
    split at h
    · obtain ⟨y, h1, h2⟩ := PL.dec_inv h
      exact ⟨y, h1, by simp only [PV.mk, h2]⟩
    · cases h
  | agg ps =>
    simp only [PV.dec] at h
    split at h
    · obtain ⟨y, h1, h2⟩ := LS.dec_inv h
      exact ⟨y, h1, by simp only [PV.mk, h2]⟩
    · cases h
  | tup us =>
    simp only [PV.dec] at h
    split at h
    · obtain ⟨y, h1, h2⟩ := TS.dec_inv h
      exact ⟨y, h1, by simp only [PV.mk, h2]⟩
    · cases h
  | slot b ps =>
    simp only [PV.dec] at h
    split at h
    · split at h
      · rename_i e; subst e
        obtain ⟨y, h1, h2⟩ := LS.dec_inv h
        exact ⟨y, h1, by simp only [PV.mk, h2]⟩
      · cases h
    · cases h
abbrev Sh := List (Nat × PV)
@[reducible] def Sh.app : Sh → Type
  | [] => Unit
  | q :: r => q.2.app (Sh.app r)
def Sh.mk : (s : Sh) → Sh.app s → St
  | [], _ => []
  | q :: r, x => (q.1, (q.2.mk x).1) :: Sh.mk r (q.2.mk x).2
def Sh.dec : (s : Sh) → St → Option (Sh.app s)
  | [], [] => some ()
  | q :: r, p :: a => if p.1 = q.1 then q.2.dec p.2 (Sh.dec r a) else none
  | [], _ :: _ => none
  | _ :: _, [] => none
theorem Sh.dec_inv : ∀ {s : Sh} {a : St} {x : Sh.app s}, Sh.dec s a = some x → a = Sh.mk s x
  | [], [], _, _ => rfl
  | q :: r, p :: a, x, h => by
    simp only [Sh.dec] at h
    split at h
    · rename_i e
      obtain ⟨y, h1, h2⟩ := PV.dec_inv h
      have := Sh.dec_inv h1
      simp only [Sh.mk, h2, ← this, ← e]
    · cases h
  | [], _ :: _, _, h => by cases h
  | _ :: _, [], _, h => by cases h
end Go.Vi
/- Contracts of functions and of loops, as data; words of the residuals. -/
namespace Go.Vi
set_option linter.unusedVariables false
/-! ### Words of the residuals -/
def br {β : Type} (c : Bool) (a b : Option β) : Option β := match c with
  | true => a
  | false => b
def bl {β : Type} (c : Bool) (a b : Option β) : Option β := match c with
  | true => b
  | false => a
def ck {β : Type} (c : Bool) (a : Option β) : Option β := match c with
  | true => a
  | false => none
def cn {β : Type} (c : Bool) (a : Option β) : Option β := match c with
  | true => none
  | false => a
def ge {α β : Type} (o : Option α) (f : α → Option β) : Option β := match o with
  | some x => f x
  | none => none
abbrev w (n : Int) : Int := IntKind.i64.wrap n
abbrev Kd.i : Kd := .int .i64
abbrev PL.i : PL := .int .i64
noncomputable def Sealed.{u} {α : Sort u} (x : α) : { y : α // y = x } := Classical.choice ⟨⟨x, rfl⟩⟩

/-! ### Contracts -/
/-- A callee: what a call gives, natural and right. -/
structure Ctr (P : Program) where
  g : FuncId
  run : {β : Type} → St → (St → Option β) → Option β
  nat : ∀ {β : Type} (a : St) (K : St → Option β), run a K = (run a some).bind K
  ok : ∀ a res, run a some = some res → GoF P g a res
def orcs {P : Program} {β : Type} : List (Ctr P) → FuncId → St → (St → Option β) → Option β
  | [], _, _, _ => none
  | c :: r, f, a, K => match Nat.beq f c.g with
    | true => c.run a K
    | false => orcs r f a K
theorem orcs_nat {P : Program} : ∀ (cs : List (Ctr P)) {β : Type} (f : FuncId) (a : St) (K : St → Option β), orcs cs f a K = (orcs cs f a some).bind K
  | [], _, _, _, _ => rfl
  | c :: r, β, f, a, K => by
    unfold orcs
    cases Nat.beq f c.g with
    | true => exact c.nat a K
    | false => exact orcs_nat r f a K
theorem orcs_ok {P : Program} : ∀ (cs : List (Ctr P)) (f : FuncId) (a res : St), orcs cs f a some = some res → GoF P f a res
  | [], _, _, _, h => by cases h
  | c :: r, f, a, res, h => by
    unfold orcs at h
    cases hb : Nat.beq f c.g with
    | true =>
      rw [hb] at h
      have e : f = c.g := Nat.eq_of_beq_eq_true hb
      subst e
      exact c.ok a res h
    | false =>
      rw [hb] at h
      exact orcs_ok r f a res h
theorem orcs_right {P : Program} (cs : List (Ctr P)) : OrcOk (fun {β} => orcs (β := β) cs) (GoF P) := OrcOk.of (orcs_nat cs) (orcs_ok cs)
/-- A loop: what it gives, natural and right. -/
structure LpC (P : Program) (fx : Fx) where
  b : Code
  key : Nat
  hk : keyOf b = key
  run : {β : Type} → St → (Exit → St → Option β) → Option β
  nat : ∀ {β : Type} (σ : St) (K : Exit → St → Option β), run σ K = (run σ fun e s => some (e, s)).bind fun p => K p.1 p.2
  ok : ∀ {C : Ct} {nt : Nat}, FxOk P fx nt C → ∀ {β : Type} (σ : St) (K : Exit → St → Option β) (r : β), run σ K = some r → ∃ e σ', K e σ' = some r ∧ CodeOk P C nt (.loop b) σ e σ'
/-- A loop that is never reached. -/
def LpC.dead {P : Program} {fx : Fx} (b : Code) (key : Nat) (hk : keyOf b = key) : LpC P fx := ⟨b, key, hk, fun _ _ => none, fun _ _ => rfl, fun {_ _} _ {_} _ _ _ h => by cases h⟩
def lps {P : Program} {fx : Fx} {β : Type} : List (LpC P fx) → Nat → St → (Exit → St → Option β) → Option β
  | [], _, _, _ => none
  | c :: r, k, a, K => match Nat.beq k c.key with
    | true => c.run a K
    | false => lps r k a K
theorem lps_nat {P : Program} {fx : Fx} : ∀ (cs : List (LpC P fx)) (k : Nat) {β : Type} (σ : St) (K : Exit → St → Option β), lps cs k σ K = (lps cs k σ fun e s => some (e, s)).bind fun p => K p.1 p.2
  | [], _, _, _, _ => rfl
  | c :: r, k, β, σ, K => by
    unfold lps
    cases Nat.beq k c.key with
    | true => exact c.nat σ K
    | false => exact lps_nat r k σ K
def keysOk {P : Program} {fx : Fx} : List (LpC P fx) → Bool
  | [] => true
  | c :: r => (r.all fun d => !Nat.beq d.key c.key) && keysOk r
theorem lps_ok {P : Program} {fx : Fx} {C : Ct} {nt : Nat} (hfx : FxOk P fx nt C) : ∀ {cs : List (LpC P fx)}, keysOk cs = true → ∀ {β : Type}, LpOk P C nt (lps (β := β) cs) (cs.map LpC.b)
  | [], _, _, b, hb, _, _, _, _ => by cases hb
  | c :: r, hk, β, b, hb, σ, K, x, h => by
    simp only [keysOk, Bool.and_eq_true, List.all_eq_true, Bool.not_eq_true'] at hk
    unfold lps at h
    cases hq : Nat.beq (keyOf b) c.key with
    | true =>
      rw [hq] at h
      rcases List.mem_cons.1 hb with rfl | hb
      · exact c.ok hfx σ K x h
      · obtain ⟨d, hd, rfl⟩ := List.mem_map.1 hb
        have := hk.1 d hd
        rw [d.hk] at hq
        rw [hq] at this
        cases this
    | false =>
      rw [hq] at h
      rcases List.mem_cons.1 hb with rfl | hb
      · rw [c.hk] at hq
        have : Nat.beq c.key c.key = true := Nat.beq_refl c.key
        rw [this] at hq
        cases hq
      · exact lps_ok hfx hk.2 b hb σ K x h
/-- A loop, told by rounds that begin with what is of use alone. -/
theorem loop_ok2 {P : Program} {C : Ct} {nt : Nat} {fx : Fx} (hfx : FxOk P fx nt C) {orcK : {β : Type} → FuncId → St → (St → Option β) → Option β} (ho : OrcOk orcK (GoF P)) {β : Type} {lp : Nat → St → (Exit → St → Option β) → Option β} {b : Code} (hl : LpOk P C nt lp (loopsOf b)) (ts : List Nat)
    {L : Nat → St → (Exit → St → Option β) → Option β} (h0 : ∀ σ K r, L 0 σ K ≠ some r)
    (hs : ∀ n σ K r, L (n + 1) σ K = some r → codeK orcK lp fx b (σ.clean (some ts)) (roundK (L n) K) = some r) :
    ∀ n σ K r, L n σ K = some r → ∃ e σ', K e σ' = some r ∧ CodeOk P C nt (.loop b) σ e σ' := by
  have cl : ∀ {σ : St} {a : Act} {w : World}, R C nt σ a w → R C nt (σ.clean (some ts)) a w := fun hR => hR.sub (St.clean_asc hR.asc _) fun k v hk => St.clean_get hR.asc hk
  have key : ∀ n σ K r, L n σ K = some r → ∃ e σ', K e σ' = some r ∧ ∀ a w, R C nt σ a w → ∀ Q : Exit → Act → World → Prop, (∀ a' w', R C nt σ' a' w' → Q e a' w') → Code.rounds P b Q n a w := by
    intro n
    induction n with
    | zero => exact fun σ K r h => absurd h (h0 σ K r)
    | succ n ih =>
      intro σ K r h
      obtain ⟨e, σ1, h1, h2⟩ := codeK_ok hfx ho b hl (hs n σ K r h)
      cases e with
      | normal =>
        obtain ⟨e2, σ2, h3, h4⟩ := ih σ1 K r h1
        exact ⟨e2, σ2, h3, fun a w hR Q hQ => h2 a w (cl hR) _ fun a' w' hR' => h4 a' w' hR' Q hQ⟩
      | exit l => exact ⟨_, σ1, h1, fun a w hR Q hQ => h2 a w (cl hR) _ fun a' w' hR' => hQ a' w' hR'⟩
      | goto l => exact ⟨_, σ1, h1, fun a w hR Q hQ => h2 a w (cl hR) _ fun a' w' hR' => hQ a' w' hR'⟩
      | ret => exact ⟨_, σ1, h1, fun a w hR Q hQ => h2 a w (cl hR) _ fun a' w' hR' => hQ a' w' hR'⟩
      | panic l => exact ⟨_, σ1, h1, fun a w hR Q hQ => h2 a w (cl hR) _ fun a' w' hR' => hQ a' w' hR'⟩
      | outgrown => exact ⟨_, σ1, h1, fun a w hR Q hQ => h2 a w (cl hR) _ fun a' w' hR' => hQ a' w' hR'⟩
  intro n σ K r h
  obtain ⟨e, σ', h1, h2⟩ := key n σ K r h
  exact ⟨e, σ', h1, fun a w hR Q hQ => wp_loop_rounds n (h2 a w hR Q hQ)⟩
/-- A loop by its shape and its residual; 'ts' are the temps that are of use. -/
def Lg {β : Type} (ts : List Nat) (s : Sh) (g : Nat → Sh.app s → (Exit → St → Option β) → Option β) (n : Nat) (a : St) (K : Exit → St → Option β) : Option β := match Sh.dec s (a.clean (some ts)) with
  | some x => g n x K
  | none => none
def mkL {P : Program} {fx : Fx} (cs : List (Ctr P)) (ins : List (LpC P fx)) (b : Code) (key : Nat) (ts : List Nat) (hk : keyOf b = key) (hin : loopsOf b = ins.map LpC.b) (hd : keysOk ins = true) (s : Sh)
    (g : {β : Type} → Nat → Sh.app s → (Exit → St → Option β) → Option β) (h0 : ∀ {β : Type} (x : Sh.app s) (K : Exit → St → Option β), g 0 x K = none)
    (hs : ∀ {β : Type} (n : Nat) (x : Sh.app s) (K : Exit → St → Option β), codeK (orcs cs) (lps ins) fx b (Sh.mk s x) (roundK (Lg ts s g n) K) = g (n + 1) x K) (N : Nat) : LpC P fx where
  b := b
  key := key
  hk := hk
  run := fun a K => Lg ts s g N a K
  nat := by
    induction N with
    | zero =>
      intro β σ K
      unfold Lg
      cases Sh.dec s (σ.clean (some ts)) with
      | none => rfl
      | some x => dsimp only; rw [h0, h0]; rfl
    | succ n ih =>
      intro β σ K
      unfold Lg
      cases Sh.dec s (σ.clean (some ts)) with
      | none => rfl
      | some x => exact ((hs n x K).symm.trans (round_nat (b := b) (fx := fx) (orc := fun {β} => orcs (β := β) cs) (lp := fun {β} => lps (β := β) ins) (L := fun {β} σ K => Lg (β := β) ts s g n σ K) (orcs_nat cs) (fun q _ {β} σ K => lps_nat ins (keyOf q) σ K) (fun σ => ih σ K))).trans (congrArg (fun o => o.bind fun p => K p.1 p.2) (hs n x fun e s => some (e, s)))
  ok := fun {C nt} hfx {β} => loop_ok2 (b := b) (orcK := fun {β} => orcs (β := β) cs) (L := fun n σ K => Lg (β := β) ts s g n σ K) hfx (orcs_right cs) (lp := lps ins) (by rw [hin]; exact lps_ok hfx hd) ts
    (fun σ K r h => by
      unfold Lg at h
      cases hd : Sh.dec s (σ.clean (some ts)) with
      | none => rw [hd] at h; cases h
      | some x => rw [hd] at h; dsimp only at h; rw [h0] at h; cases h)
    (fun n σ K r h => by
      unfold Lg at h
      cases hd : Sh.dec s (σ.clean (some ts)) with
      | none => rw [hd] at h; cases h
      | some x =>
        rw [hd] at h
        have e := Sh.dec_inv hd
        rw [e]
        exact (hs n x K).trans h) N
/-- Which objects a shape hands over. -/
def ptrsSh : Sh → List Nat
  | [] => []
  | q :: r => if q.1 % 2 = 1 then q.1 / 2 :: ptrsSh r else ptrsSh r
theorem ptrsOf_mk : ∀ (s : Sh) (x : Sh.app s), ptrsOf (Sh.mk s x) = ptrsSh s
  | [], _ => rfl
  | q :: r, x => by
    simp only [Sh.mk, ptrsOf, ptrsSh]
    rw [ptrsOf_mk r]
def hasKey (k : Nat) : Sh → Bool
  | [] => false
  | q :: r => Nat.beq q.1 k || hasKey k r
theorem get_mk (k : Nat) : ∀ (s : Sh) (x : Sh.app s), hasKey k s = true → ((Sh.mk s x).get k).isSome = true
  | [], _, h => by cases h
  | q :: r, x, h => by
    simp only [Sh.mk, St.get]
    split
    · rfl
    · rename_i hne
      simp only [hasKey, Bool.or_eq_true] at h
      rcases h with h | h
      · exact absurd (Nat.eq_of_beq_eq_true h) hne
      · exact get_mk k r _ h
def entOk (s : Sh) : Bool := (ptrsSh s).all fun i => hasKey (2 * i) s
def Ctr.dead (P : Program) (g : FuncId) : Ctr P := ⟨g, fun _ _ => none, fun _ _ => rfl, fun _ _ h => by cases h⟩
/-- A function by its shape and its residual; 'rest' tells it at other shapes. -/
def mkF {P : Program} (g : FuncId) (fn : Func) (fx : Fx) (cs : List (Ctr P)) (ls : List (LpC P fx)) (s : Sh) (r : {β : Type} → Sh.app s → (St → Option β) → Option β)
    (he : ∀ {β : Type} (x : Sh.app s) (K : St → Option β), runF (orcs cs) (lps ls) fx fn (Sh.mk s x) K = r x K)
    (hf : P.funcs[g]? = some fn) (hb : fn.body.isNone = false) (hn : (fn.name == "runtime.NumGoroutine") = false) (hmix : P.follows .mixedOrders = true) (hp : fx.P = P) (hnt : fx.nt = fn.ntmps)
    (hps : fx.ptrs = ptrsSh s) (hent : entOk s = true) (hin : loopsOf (bodyOf fn) = ls.map LpC.b) (hd : keysOk ls = true) (rest : Ctr P) (hr : rest.g = g) : Ctr P where
  g := g
  run := fun a K => match Sh.dec s a with
    | some x => r x K
    | none => rest.run a K
  nat := fun {β} a K => by
    cases Sh.dec s a with
    | none => exact rest.nat a K
    | some x => exact ((he x K).symm.trans (runF_nat (orcs_nat cs) (lp := fun {β} => lps (β := β) ls) (fun q _ {β} σ K => lps_nat ls (keyOf q) σ K))).trans (congrArg (fun o => o.bind K) (he x some))
  ok := fun a res h => by
    cases hd' : Sh.dec s a with
    | none =>
      rw [hd'] at h
      subst hr
      exact rest.ok a res h
    | some x =>
      rw [hd'] at h
      have e := Sh.dec_inv hd'
      subst e
      have hfx : { fx with ptrs := ptrsOf (Sh.mk s x) } = fx := by rw [ptrsOf_mk, ← hps]
      exact runF_go (fn := fn) hf hb hn hmix (fx := fx) hp hnt (orcs_right cs) (lp := lps ls) (fun i hi => by
        rw [ptrsOf_mk] at hi
        exact get_mk _ s x (List.all_eq_true.1 hent i hi)) (fun C nt hx => by
        rw [hfx] at hx
        rw [hin]
        exact lps_ok hx hd) ((he x some).trans h)
end Go.Vi
/- A law's entry: its arguments as they are read. -/
namespace Go.Vi
open Go.RowKit
set_option linter.unusedVariables false
variable {P : Program} {W : World} {Im : Nat → Prop} {σ : St} {D : Nat → SD}
def mkEnt : Nat → List V → St
  | _, [] => []
  | i, v :: r => (2 * i, v) :: mkEnt (i + 1) r
theorem mkEnt_lt : ∀ (vs : List V) (i : Nat) (p : Nat × V), p ∈ mkEnt i vs → 2 * i ≤ p.1
  | [], _, _, h => by cases h
  | v :: r, i, p, h => by
    rcases List.mem_cons.1 h with rfl | h
    · exact Nat.le_refl _
    · have := mkEnt_lt r (i + 1) p h; omega
theorem mkEnt_asc : ∀ (vs : List V) (i : Nat), (mkEnt i vs).Asc
  | [], _ => List.Pairwise.nil
  | v :: r, i => List.pairwise_cons.2 ⟨fun q hq => by have := mkEnt_lt r (i + 1) q hq; show 2 * i < q.1; omega, mkEnt_asc r (i + 1)⟩
theorem mkEnt_odd : ∀ (vs : List V) (i k : Nat), (mkEnt i vs).get (2 * k + 1) = none
  | [], _, _ => rfl
  | v :: r, i, k => by
    simp only [mkEnt, St.get]
    rw [if_neg (by omega)]
    exact mkEnt_odd r (i + 1) k
theorem mkEnt_get : ∀ (vs : List V) (i t : Nat) (v : V), (mkEnt i vs).get (2 * t) = some v → i ≤ t ∧ vs[t - i]? = some v
  | [], _, _, _, h => by cases h
  | u :: r, i, t, v, h => by
    simp only [mkEnt, St.get] at h
    split at h
    · rename_i e
      have : t = i := by omega
      subst this
      rw [Nat.sub_self]
      exact ⟨Nat.le_refl _, h⟩
    · obtain ⟨h1, h2⟩ := mkEnt_get r (i + 1) t v h
      exact ⟨by omega, by rw [show t - i = (t - (i + 1)) + 1 by omega]; exact h2⟩
theorem GoF.lawE {f : FuncId} {vs : List V} (h : GoF P f (mkEnt 0 vs) [(0, .one (.sc (.bool true)))]) {W : World} {args : List Value}
    (ht : All2 (VOk W (fun b => b < W.heap.size) (fun b => b < W.heap.size) (mkEnt 0 vs) (fun _ => ⟨0, [], []⟩)) vs args) :
    Calls P f args.toArray W fun e W' => e = .returned (.bool true) ∧ Below W.heap.size W W' :=
  h.law (mkEnt_asc vs 0) (mkEnt_odd vs 0) fun t v hv => by
    obtain ⟨_, h2⟩ := mkEnt_get vs 0 t v hv
    exact All2.get ht h2
theorem VOk.int {k : IntKind} (n : Int) : VOk W Im Im σ D (.one (.sc (.int k n))) (.int k n) := ⟨rfl, rfl⟩
theorem VOk.list {m : Md} (hm : m ≠ .own) {e : TypeId} {k : Kd} {xs : List k.T} {a : Option Addr} {n c : Nat} {f : List Nat} (h : RepK W Im (.fz e k) xs (Value.slice a n c).cells.toList f) : VOk W Im Im σ D (.one (.lst m e k xs)) (.slice a n c) := by
  simp only [RepK, Value.cells] at h
  obtain ⟨v, hv, _, h3⟩ := h
  have : v = .slice a n c := by simpa using hv.symm
  subst this
  cases m with
  | own => exact absurd rfl hm
  | frz => exact h3
  | pin => exact h3
theorem VOk.agg {k : Kd} (hk : k.noOw = true) (hw : 2 ≤ k.w) {x : k.T} {v : Value} {f : List Nat} (h : RepK W Im k x v.cells.toList f) : VOk W Im Im σ D (.agg (toL .frz k x)) v := by
  have hl := h.length
  have hv : v = .agg v.cells.toList.toArray := by
    cases v <;> simp [Value.cells] at hl ⊢ <;> omega
  exact ⟨_, hv, (toL_noOw hk h).2⟩
end Go.Vi
/- Words of the residuals, whole numbers, rounds. -/
namespace Go.Vi
set_option linter.unusedVariables false
abbrev Sp := Int × Int
abbrev Pl := Int × Bool
abbrev Do := Int × (Int × (List Int))
abbrev Fa := Int × (Bool × (Bool × (List Sp)))
abbrev Ro := Int × (Int × (Int × (Int × (Bool × (Bool × (Sp × Sp))))))

theorem res {β : Type} : (∀ (p : Prop) [Decidable p] (a b : Option β), br (decide p) a b = if p then a else b) ∧ (∀ (p : Prop) [Decidable p] (a b : Option β), bl (decide p) a b = if p then b else a) ∧
    (∀ (p : Prop) [Decidable p] (a : Option β), ck (decide p) a = if p then a else none) ∧ (∀ (p : Prop) [Decidable p] (a : Option β), cn (decide p) a = if p then none else a) ∧
    (∀ c (a b : Option β), br (!c) a b = br c b a) ∧ (∀ c (a b : Option β), bl (!c) a b = bl c b a) ∧
    (∀ (a b : Option β), br true a b = a) ∧ (∀ (a b : Option β), br false a b = b) ∧ (∀ (a b : Option β), bl true a b = b) ∧ (∀ (a b : Option β), bl false a b = a) ∧
    (∀ (a : Option β), ck true a = a) ∧ (∀ (a : Option β), cn false a = a) ∧
    (∀ (a b : Int) (x y : Option β), br (a != b) x y = if a = b then y else x) ∧ (∀ (a b : Int) (x y : Option β), bl (a != b) x y = if a = b then x else y) := by
  refine ⟨?_, ?_, ?_, ?_, ?_, ?_, fun _ _ => rfl, fun _ _ => rfl, fun _ _ => rfl, fun _ _ => rfl, fun _ => rfl, fun _ => rfl, ?_, ?_⟩
  · intro p _ a b; by_cases h : p <;> simp [h, br]
  · intro p _ a b; by_cases h : p <;> simp [h, bl]
  · intro p _ a; by_cases h : p <;> simp [h, ck]
  · intro p _ a; by_cases h : p <;> simp [h, cn]
  · intro c a b; cases c <;> rfl
  · intro c a b; cases c <;> rfl
  · intro a b x y
    have e : (a != b) = !decide (a = b) := rfl
    rw [e]; by_cases h : a = b <;> simp [h, br]
  · intro a b x y
    have e : (a != b) = !decide (a = b) := rfl
    rw [e]; by_cases h : a = b <;> simp [h, bl]
theorem ge_some {α β : Type} (x : α) (f : α → Option β) : ge (some x) f = f x := rfl
theorem w_id {x : Int} (h0 : -9223372036854775808 ≤ x) (h1 : x ≤ 9223372036854775807) : w x = x := by
  simp only [w, IntKind.wrap, IntKind.bits, IntKind.signed]
  simp
  omega
theorem wu_id {x : Int} (h0 : 0 ≤ x) (h1 : x < 18446744073709551616) : IntKind.u64.wrap x = x := by
  have : IntKind.u64.wrap x = x % 18446744073709551616 := by simp [IntKind.wrap, IntKind.bits, IntKind.signed]
  rw [this]; omega
theorem wf_i64 {x : Int} (h : (Lit.int .i64 x).wf = true) : -9223372036854775808 ≤ x ∧ x ≤ 9223372036854775807 := by
  have h : (decide ((-9223372036854775808 : Int) ≤ x) && decide (x ≤ 9223372036854775807)) = true := h
  simp at h; omega
theorem wf_u8 {x : Int} (h : (Lit.int .u8 x).wf = true) : 0 ≤ x ∧ x ≤ 255 := by
  have h : (decide ((0 : Int) ≤ x) && decide (x ≤ 255)) = true := h
  simp at h; omega

/-! ### Rounds -/
/-- A loop that goes on while its measure falls. -/
theorem lwhile {σ δ : Type} {L : Nat → σ → δ} {k : σ → δ} (I D : σ → Prop) (μ : σ → Nat)
    (h : ∀ s, I s → (D s ∧ ∀ n, L (n + 1) s = k s) ∨ ∃ s', I s' ∧ μ s' < μ s ∧ ∀ n, L (n + 1) s = L n s') : ∀ n s, I s → μ s < n → ∃ s', I s' ∧ D s' ∧ L n s = k s' := by
  intro n
  induction n with
  | zero => intro s _ h; omega
  | succ n ih =>
    intro s hs hm
    rcases h s hs with ⟨hd, e⟩ | ⟨s', hs', hm', e⟩
    · exact ⟨s, hs, hd, e n⟩
    · obtain ⟨s2, a, b, c⟩ := ih s' hs' (by omega)
      exact ⟨s2, a, b, (e n).trans c⟩
/-- A loop over the indexes of a list, with what it keeps. -/
theorem lfor {σ δ : Type} {len : Nat} {L : Nat → Nat → σ → δ} {k : σ → δ} (I : Nat → σ → Prop)
    (hend : ∀ n s, I len s → L (n + 1) len s = k s) (hstep : ∀ i s, i < len → I i s → ∃ s', I (i + 1) s' ∧ ∀ n, L (n + 1) i s = L n (i + 1) s') :
    ∀ i s n, I i s → i ≤ len → len < n + i → ∃ s', I len s' ∧ L n i s = k s' := by
  intro i s n hI hi hn
  obtain ⟨⟨j, s'⟩, ⟨h1, h2⟩, h3, h4⟩ := lwhile (σ := Nat × σ) (L := fun n p => L n p.1 p.2) (k := fun p => k p.2) (fun p => I p.1 p.2 ∧ p.1 ≤ len) (fun p => p.1 = len) (fun p => len - p.1) (fun p hp => by
    obtain ⟨j, s⟩ := p
    obtain ⟨h1, h2⟩ := hp
    by_cases c : j = len
    · left; subst c; exact ⟨rfl, fun n => hend n s h1⟩
    · right
      have c : j < len := by simp only at h2; omega
      obtain ⟨s', a, b⟩ := hstep j s c h1
      exact ⟨(j + 1, s'), ⟨a, by simp only; omega⟩, by simp only; omega, b⟩) n (i, s) ⟨hI, hi⟩ (by simp only; omega)
  simp only at h3 h4
  subst h3
  exact ⟨s', h1, h4⟩
/-- The first error of a list. -/
def ferr {α : Type} (f : Nat → α → Int) : Nat → List α → Int
  | _, [] => 0
  | i, x :: r => if f i x = 0 then ferr f (i + 1) r else f i x
theorem lerr {α β : Type} {xs : List α} (f : Nat → α → Int) {L : Nat → Nat → Option β} {k0 : Int → Option β} {k1 : Option β} (hend : ∀ n, L (n + 1) xs.length = k1)
    (hstep : ∀ i x, xs[i]? = some x → ∀ n, L (n + 1) i = if f i x = 0 then L n (i + 1) else k0 (f i x)) :
    ∀ n i, i ≤ xs.length → xs.length < n + i → L n i = if ferr f i (xs.drop i) = 0 then k1 else k0 (ferr f i (xs.drop i)) := by
  intro n
  induction n with
  | zero => intro i h1 h2; omega
  | succ n ih =>
    intro i h1 h2
    by_cases c : i = xs.length
    · subst c
      rw [hend, List.drop_of_length_le (Nat.le_refl _)]
      simp [ferr]
    · have hi : i < xs.length := by omega
      rw [hstep i xs[i] (List.getElem?_eq_getElem hi), List.drop_eq_getElem_cons hi, ih (i + 1) (by omega) (by omega)]
      simp only [ferr]
      by_cases e : f i xs[i] = 0
      · rw [if_pos e]; simp only [e, ↓reduceIte]
      · simp only [e, ↓reduceIte]
theorem ferr_zero {α : Type} {f : Nat → α → Int} : ∀ (xs : List α) (i : Nat), ferr f i xs = 0 ↔ ∀ j x, xs[j]? = some x → f (i + j) x = 0
  | [], i => by simp [ferr]
  | a :: r, i => by
    simp only [ferr]
    by_cases e : f i a = 0
    · rw [if_pos e, ferr_zero r (i + 1)]
      constructor
      · intro h j x hx
        cases j with
        | zero => simp at hx; subst hx; exact e
        | succ j => have := h j x (by simpa using hx); rwa [show i + (j + 1) = i + 1 + j by omega]
      · intro h j x hx
        have := h (j + 1) x (by simpa using hx)
        rwa [show i + (j + 1) = i + 1 + j by omega] at this
    · rw [if_neg e]
      constructor
      · intro h; exact absurd h e
      · intro h; exact absurd (h 0 a rfl) e
theorem ferr_congr {α : Type} {f g : Nat → α → Int} : ∀ (xs : List α) (i : Nat), (∀ j x, xs[j]? = some x → f (i + j) x = g (i + j) x) → ferr f i xs = ferr g i xs
  | [], _, _ => rfl
  | a :: r, i, h => by
    simp only [ferr]
    have h0 : f i a = g i a := h 0 a rfl
    have h1 := ferr_congr (f := f) (g := g) r (i + 1) (fun j x hx => by
      have e := h (j + 1) x (by simpa using hx)
      have q : i + (j + 1) = i + 1 + j := by omega
      rw [q] at e; exact e)
    rw [h0, h1]
theorem idx {α : Type} {xs : List α} {i : Nat} {x : α} (h : xs[i]? = some x) : i < xs.length := by
  rcases Nat.lt_or_ge i xs.length with h' | h'
  · exact h'
  · rw [List.getElem?_eq_none h'] at h; cases h
theorem getl {α : Type} {xs : List α} {i : Nat} (h : i < xs.length) : ∃ x, xs[i]? = some x := ⟨_, List.getElem?_eq_getElem h⟩
theorem geti {α : Type} {xs : List α} {i : Int} (h0 : 0 ≤ i) (h : i < xs.length) : ∃ x, xs[i.toNat]? = some x := getl (by omega)
end Go.Vi
