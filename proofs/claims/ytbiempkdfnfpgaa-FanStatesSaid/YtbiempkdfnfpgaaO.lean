/- An argument that can be read, opened as a value of its kind: whole numbers, bools, slices, structs. -/
import Derived.Test.YtbiempkdfnfpgaaWMore
import Derived.Deep.Slices
import Derived.ChangeArms
import Derived.ChangeSame
namespace Go.Proofs.Ytbiempkdfnfpgaa.O
open Go.RowKit Go.Deep Go.Proofs.YtbiempkdfnfpgaaW.PrintWords Go.Proofs.YtbiempkdfnfpgaaW.PrintLast Go.Proofs.YtbiempkdfnfpgaaW.PrintMore
variable {P : Program} {α β : Type}

/-- Whatever reads by the type t is a value of the kind k. -/
def Opens (P : Program) {α : Type} (t : TypeId) (k : Kd α) (wf : α → Prop) : Prop :=
  P.cellsOf t = k.sz ∧ ∀ (H : Type) (enc : TypeId × Value → H) (w : World) (base : Nat) (sp : Nat → Bool) (hd : Bool) (fuel : Nat) (cs : List Value) (x : DataW H × List MemPlace),
    DataW.trod enc P w base sp hd fuel t cs = some x → ∃ a, k.K w a cs ∧ wf a

theorem Opens.int {t : TypeId} {k : IntKind} (ht : P.underlying t = some (.int k)) (hc : P.cellsOf t = 1) : Opens P t (Kd.int k) (fun n => (Lit.int k n).wf = true) :=
  ⟨hc, fun H enc w base sp hd fuel cs x h => by obtain ⟨n, rfl, _, hw⟩ := DataW.trod_int ht h; exact ⟨n, rfl, hw⟩⟩
theorem Opens.bool {t : TypeId} (ht : P.underlying t = some .bool) (hc : P.cellsOf t = 1) : Opens P t Kd.bool (fun _ => True) :=
  ⟨hc, fun H enc w base sp hd fuel cs x h => by obtain ⟨n, rfl, _⟩ := DataW.trod_bool ht h; exact ⟨n, rfl, trivial⟩⟩

theorem Opens.slice {t e : TypeId} {k : Kd α} {wf : α → Prop} (ht : P.underlying t = some (.slice e)) (hc : P.cellsOf t = 1) (he : Opens P e k wf) :
    Opens P t (Kd.slice e k) (fun l => l.length ≤ maxLen ∧ ∀ x ∈ l, wf x) := by
  refine ⟨hc, fun H enc w base sp hd fuel cs x h => ?_⟩
  rcases open_slice ht h with ⟨rfl, _⟩ | ⟨a, len, cap, m, n, D, Pl, rfl, hb, hl, hm, hmm, _, hx⟩
  · exact ⟨[], ⟨none, 0, rfl, Nat.le_refl _, rfl, by simp, fun h => absurd h (by simp)⟩, by simp, fun x hx => by cases hx⟩
  · have hlm : len ≤ m := by rw [hmm]; split <;> omega
    have each : ∀ i : Fin len, ∃ p : α, ∃ c, w.cells? base (a.add (i.1 * P.cellsOf e)) (P.cellsOf e) = some c ∧ k.K w p c ∧ wf p := by
      intro i
      obtain ⟨cs', h1, h2⟩ := hx i.1 (by omega)
      obtain ⟨p, h3, h4⟩ := he.2 H enc w base sp hd n cs' _ h2
      exact ⟨p, cs', h1, h3, h4⟩
    obtain ⟨f, hf⟩ := Classical.axiomOfChoice each
    have hlen : (List.ofFn f).length = len := by simp
    have hC : Kd.C k w (some a) len (List.ofFn f) := by
      refine ⟨hlen, by unfold maxLen at hm; omega, fun _ => ⟨a, rfl, fun j p hj => ?_⟩⟩
      obtain ⟨hj1, hj2⟩ := List.getElem?_eq_some_iff.1 hj
      rw [hlen] at hj1
      simp at hj2
      obtain ⟨c, h1, h2, _⟩ := hf ⟨j, hj1⟩
      obtain ⟨_, h4, h5⟩ := World.cells?_some h1
      rw [he.1] at h4 h5
      refine ⟨c, h4, by rw [← hj2]; exact h2, fun i u hu => ?_⟩
      have hi : i < k.sz := by rw [← h4]; exact (List.getElem?_eq_some_iff.1 hu).1
      have := h5 i hi
      rw [Deep.add_add] at this
      rw [this, hu]
    refine ⟨List.ofFn f, ⟨some a, cap, by rw [hlen], by rw [hlen]; exact hl, by rw [hlen]; exact hC⟩, by rw [hlen]; omega, fun x hx => ?_⟩
    obtain ⟨i, rfl⟩ := List.mem_ofFn.1 hx
    exact (hf i).choose_spec.2.2

/-- The fields from one on. -/
def OpensL (P : Program) {α : Type} (fs : List Field) (off : Nat) (k : Kd α) (wf : α → Prop) : Prop :=
  ∀ (H : Type) (enc : TypeId × Value → H) (w : World) (base : Nat) (sp : Nat → Bool) (hd : Bool) (fuel : Nat) (cs : List Value), cs.length = off + k.sz →
    (∀ f ∈ fs, ∃ x : DataW H × List MemPlace, DataW.trod enc P w base sp hd fuel f.type ((cs.drop f.offset).take (P.cellsOf f.type)) = some x) → ∃ a, k.K w a (cs.drop off) ∧ wf a
theorem OpensL.one {f : Field} {off : Nat} {k : Kd α} {wf : α → Prop} (ho : f.offset = off) (h : Opens P f.type k wf) : OpensL P [f] off k wf := by
  intro H enc w base sp hd fuel cs hl hf
  obtain ⟨x, hx⟩ := hf f (by simp)
  rw [ho, h.1, List.take_of_length_le (by simp; omega)] at hx
  exact h.2 H enc w base sp hd fuel _ x hx
theorem OpensL.cons {f : Field} {fs : List Field} {off : Nat} {ka : Kd α} {kb : Kd β} {wa : α → Prop} {wb : β → Prop} (ho : f.offset = off) (h : Opens P f.type ka wa) (hr : OpensL P fs (off + ka.sz) kb wb) :
    OpensL P (f :: fs) off (Kd.pair ka kb) (fun x => wa x.1 ∧ wb x.2) := by
  intro H enc w base sp hd fuel cs hl hf
  have hl : cs.length = off + (ka.sz + kb.sz) := hl
  obtain ⟨x, hx⟩ := hf f (by simp)
  rw [ho, h.1] at hx
  obtain ⟨a, h1, h2⟩ := h.2 H enc w base sp hd fuel _ x hx
  obtain ⟨b, h3, h4⟩ := hr H enc w base sp hd fuel cs (by omega) (fun g hg => hf g (by simp [hg]))
  refine ⟨(a, b), ⟨(cs.drop off).take ka.sz, cs.drop (off + ka.sz), ?_, h1, h3⟩, h2, h4⟩
  rw [← List.drop_drop, List.take_append_drop]
theorem Opens.struct {t : TypeId} {fs : Array Field} {k : Kd α} {wf : α → Prop} (ht : P.underlying t = some (.struct fs)) (hc : P.cellsOf t = k.sz) (hL : OpensL P fs.toList 0 k wf) : Opens P t k wf := by
  refine ⟨hc, fun H enc w base sp hd fuel cs x h => ?_⟩
  obtain ⟨xs, n, _, _, hlen, hxl, hf⟩ := DataW.trod_struct ht h
  have := hL H enc w base sp hd n cs (by rw [hlen, hc]; omega) (fun f hfm => by
    obtain ⟨i, hi⟩ := List.getElem?_of_mem hfm
    have hi' : fs[i]? = some f := by simpa using hi
    have h2 := hf i f hi'
    have hlt : i < xs.length := by rw [hxl]; exact (Array.getElem?_eq_some_iff.1 hi').1
    rw [List.getElem?_eq_getElem hlt] at h2
    exact ⟨_, h2⟩)
  simpa using this
theorem Opens.iso {t : TypeId} {k : Kd α} {wf : α → Prop} (h : Opens P t k wf) (f : β → α) (g : α → β) (hfg : ∀ a, f (g a) = a) : Opens P t (Kd.iso k f) (fun b => wf (f b)) := by
  refine ⟨h.1, fun H enc w base sp hd fuel cs x hx => ?_⟩
  obtain ⟨a, h1, h2⟩ := h.2 H enc w base sp hd fuel cs x hx
  exact ⟨g a, show k.K w (f (g a)) cs by rw [hfg]; exact h1, show wf (f (g a)) by rw [hfg]; exact h2⟩
theorem Opens.imp {t : TypeId} {k : Kd α} {wf wf' : α → Prop} (h : Opens P t k wf) (hw : ∀ a, wf a → wf' a) : Opens P t k wf' :=
  ⟨h.1, fun H enc w base sp hd fuel cs x hx => by obtain ⟨a, h1, h2⟩ := h.2 H enc w base sp hd fuel cs x hx; exact ⟨a, h1, hw a h2⟩⟩

/-- An argument of that type. -/
theorem Opens.arg {t : TypeId} {k : Kd α} {wf : α → Prop} (h : Opens P t k wf) {H : Type} {enc : TypeId × Value → H} {w : World} {base : Nat} {sp : Nat → Bool} {hd : Bool} {v : Value} {d : DataW H} {ps : List MemPlace}
    (hT : DataW.Trod enc P w base sp hd t v d ps) : ∃ a, k.K w a v.cells.toList ∧ wf a := by
  obtain ⟨fuel, hf⟩ := hT
  exact h.2 H enc w base sp hd fuel _ _ hf
theorem agg_of {v : Value} {cs : List Value} (h : v.cells.toList = cs) (hl : cs.length ≠ 1) : v = .agg cs.toArray := by
  subst h
  cases v <;> simp [Value.cells] at hl ⊢
/-- What a kind tells hangs on the blocks that are there alone. -/
def Ho {α : Type} (k : Kd α) : Prop := ∀ (W W' : World) (x : α) (cs : List Value), (∀ b, b < W.heap.size → W'.heap[b]? = W.heap[b]?) → k.K W x cs → k.K W' x cs
theorem cell_ho {W W' : World} (h : ∀ b, b < W.heap.size → W'.heap[b]? = W.heap[b]?) {a : Addr} {u : Value} (hc : W.cell? a = some u) : W'.cell? a = some u := by
  have := h a.block (World.block_lt_of_cell? _ _ hc)
  simpa [World.cell?, this] using hc
theorem Ho.int (k : IntKind) : Ho (Kd.int k) := fun _ _ _ _ _ h => h
theorem Ho.bool : Ho Kd.bool := fun _ _ _ _ _ h => h
theorem Ho.pair {a : Kd α} {b : Kd β} (ha : Ho a) (hb : Ho b) : Ho (Kd.pair a b) := by
  rintro W W' x cs h ⟨c0, c1, e, h0, h1⟩
  exact ⟨c0, c1, e, ha W W' _ _ h h0, hb W W' _ _ h h1⟩
theorem Ho.iso {k : Kd α} (hk : Ho k) (f : β → α) : Ho (Kd.iso k f) := fun W W' x cs h h0 => hk W W' (f x) cs h h0
theorem C_ho {k : Kd α} (hk : Ho k) {W W' : World} (h : ∀ b, b < W.heap.size → W'.heap[b]? = W.heap[b]?) {A : Option Addr} {n : Nat} {xs : List α} (hC : Kd.C k W A n xs) : Kd.C k W' A n xs := by
  obtain ⟨h1, h2, h3⟩ := hC
  refine ⟨h1, h2, fun hn => ?_⟩
  obtain ⟨ad, e, hc⟩ := h3 hn
  refine ⟨ad, e, fun j p hj => ?_⟩
  obtain ⟨c, hl, hK, hcell⟩ := hc j p hj
  exact ⟨c, hl, hk W W' _ _ h hK, fun i u hu => cell_ho h (hcell i u hu)⟩
theorem Ho.slice {k : Kd α} (hk : Ho k) (e : Nat) : Ho (Kd.slice e k) := by
  rintro W W' x cs h ⟨A, c, rfl, hl, hC⟩
  exact ⟨A, c, rfl, hl, C_ho hk h hC⟩
/-- A row that came in, told by its value. -/
theorem V_of {k : Kd α} (hk : Ho k) {e : Nat} {W : World} {base c : Nat} {A : Option Addr} {xs : List α} (hl : xs.length ≤ c) (hC : Kd.C k W A xs.length xs) : Kd.V k e W base (fun _ => True) (.slice A xs.length c) xs :=
  Kd.V_mk hl (fun _ hW => C_ho hk (fun b hb => hW b trivial hb) hC)
end Go.Proofs.Ytbiempkdfnfpgaa.O
