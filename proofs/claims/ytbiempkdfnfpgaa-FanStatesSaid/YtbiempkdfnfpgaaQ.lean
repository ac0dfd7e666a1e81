/- Short names for steps that come up again and again in the walks of this seat. -/
import Derived.Test.YtbiempkdfnfpgaaWMore
import Derived.Test.YtbiempkdfnfpgaaWTab
import Derived.KernelRfl
namespace Go.Proofs.Ytbiempkdfnfpgaa.Q
open Go.RowKit Go.Proofs.YtbiempkdfnfpgaaW.PrintWords Go.Proofs.YtbiempkdfnfpgaaW.PrintLast Go.Proofs.YtbiempkdfnfpgaaW.PrintMore

theorem xb {p q : Prop} (h : Aside0 q) (t : q → p := by intro h_; (with_reducible repeat (first | refine blk_drewN ?_ _ | refine blk_drew ?_ | refine blk_alloc ?_ _)); exact h_) : p := t h.out
theorem xk {p q : Prop} (h : Aside0 q) (t : q → p := by intro h_; (with_reducible repeat (first | apply Kd.R_alloc | apply Kd.R_drewN | apply Kd.R_drew)); exact h_) : p := t h.out
theorem xh {p q : Prop} (h : Aside0 q) (t : q → p := by intro h_; repeat (first | (with_reducible first | exact h_ | apply below_alloc | apply pw_below_drewN | apply below_drew1 | refine below_set ?_ (Aside0.out (by assumption))) | exact h_)) : p := t h.out
theorem xl {w w' : World} {g : Nat} {o : Obj} (h : Aside0 (w.heap[g]? = some o)) (t : w.heap[g]? = some o → w'.heap[g]? = some o := by intro h_; (with_reducible repeat (first | refine blk_drewN ?_ _ | refine blk_drew ?_ | refine blk_alloc ?_ _)); exact h_) : g < w'.heap.size := blk_lt (t h.out)
theorem xw {w w' w1 : World} {g : Nat} {o : Obj} (h : Aside0 (w.heap[g]? = some o)) (hb : Below w'.heap.size w' w1) (t : w.heap[g]? = some o → w'.heap[g]? = some o := by intro h_; (with_reducible repeat (first | refine blk_drewN ?_ _ | refine blk_drew ?_ | refine blk_alloc ?_ _)); exact h_) : w1.heap[g]? = some o := blk_below (t h.out) hb
theorem xnl {w w' : World} {g a : Nat} {o : Obj} (hg : a = w'.heap.size) (h : Aside0 (w.heap[g]? = some o)) (t : w.heap[g]? = some o → w'.heap[g]? = some o := by intro h_; (with_reducible repeat (first | refine blk_drewN ?_ _ | refine blk_drew ?_ | refine blk_alloc ?_ _)); exact h_) : g ≠ a := by rw [hg]; exact Nat.ne_of_lt (blk_lt (t h.out))
theorem xng {w w' : World} {g a : Nat} {o : Obj} (hg : a = w'.heap.size) (h : Aside0 (w.heap[g]? = some o)) (t : w.heap[g]? = some o → w'.heap[g]? = some o := by intro h_; (with_reducible repeat (first | refine blk_drewN ?_ _ | refine blk_drew ?_ | refine blk_alloc ?_ _)); exact h_) : a ≠ g := (xnl hg h t).symm
theorem xs {w w1 w' : World} {g : Nat} (hg : g = w'.heap.size) (h : Aside0 (Below w.heap.size w w1)) (t : Below w.heap.size w w1 → Below w.heap.size w w' := by intro h_; repeat (first | (with_reducible first | exact h_ | apply below_alloc | apply pw_below_drewN | apply below_drew1 | refine below_set ?_ (Aside0.out (by assumption))) | exact h_)) : w.heap.size ≤ g := by rw [hg]; exact below_size (t h.out)
theorem xr {p : Prop} (t : p := by first | rfl | (simp; done) | (simp [*]; done)) : p := t
theorem xv {p : Prop} (t : p := by (try simp only [List.map_toArray, List.map_cons, List.map_nil]); first | done | rfl | (simp only [List.length_drop, List.length_take]; rfl)) : p := t
theorem xa {p : Prop} (t : p := by first | (with_reducible assumption) | assumption) : p := t
theorem am {p : Prop} (h : p) : Aside0 p := ⟨h⟩
theorem xc {p q : Prop} (h : Aside0 q) (t : q → p := by intro h_; repeat (first | exact h_ | (with_reducible refine Kd.C_alloc ?_ _) | (with_reducible refine Kd.C_drewN ?_ _) | (with_reducible refine Kd.C_drew ?_))) : p := t h.out
theorem xc2 {p q : Prop} (h : q) (t : q → p := by intro h_; repeat (first | exact h_ | (with_reducible refine Kd.C_alloc ?_ _) | (with_reducible refine Kd.C_drewN ?_ _) | (with_reducible refine Kd.C_drew ?_))) : p := t h
theorem yw {w w' w1 : World} {g : Nat} {o : Obj} (h : Aside0 (w.heap[g]? = some o)) (hb : Below w'.heap.size w' w1) (t : w.heap[g]? = some o → w'.heap[g]? = some o := by intro h_; (with_reducible repeat (first | refine blk_drewN ?_ _ | refine blk_drew ?_ | refine blk_alloc ?_ _)); exact h_) : Aside0 (w1.heap[g]? = some o) := ⟨blk_below (t h.out) hb⟩
theorem yl {w w' : World} {g a : Nat} {o : Obj} (hg : a = w'.heap.size) (h : Aside0 (w.heap[g]? = some o)) (t : w.heap[g]? = some o → w'.heap[g]? = some o := by intro h_; (with_reducible repeat (first | refine blk_drewN ?_ _ | refine blk_drew ?_ | refine blk_alloc ?_ _)); exact h_) : Aside0 (g ≠ a) := ⟨xnl hg h t⟩
theorem yg {w w' : World} {g a : Nat} {o : Obj} (hg : a = w'.heap.size) (h : Aside0 (w.heap[g]? = some o)) (t : w.heap[g]? = some o → w'.heap[g]? = some o := by intro h_; (with_reducible repeat (first | refine blk_drewN ?_ _ | refine blk_drew ?_ | refine blk_alloc ?_ _)); exact h_) : Aside0 (a ≠ g) := ⟨xng hg h t⟩
theorem ys {w w1 w' : World} {g : Nat} (hg : g = w'.heap.size) (h : Aside0 (Below w.heap.size w w1)) (t : Below w.heap.size w w1 → Below w.heap.size w w' := by intro h_; repeat (first | (with_reducible first | exact h_ | apply below_alloc | apply pw_below_drewN | apply below_drew1 | refine below_set ?_ (Aside0.out (by assumption))) | exact h_)) : Aside0 (w.heap.size ≤ g) := ⟨xs hg h t⟩
theorem yb {w w1 w' w2 : World} (h : Aside0 (Below w.heap.size w w1)) (hb : Below w'.heap.size w' w2) (t : Below w.heap.size w w1 → Below w.heap.size w w' := by intro h_; repeat (first | (with_reducible first | exact h_ | apply below_alloc | apply pw_below_drewN | apply below_drew1 | refine below_set ?_ (Aside0.out (by assumption))) | exact h_)) : Aside0 (Below w.heap.size w w2) := ⟨below_step (t h.out) hb⟩
theorem yr {α : Type} {d : Kd α} {e : Nat} {w w' w1 : World} {base : Nat} {ok : Nat → Prop} {v : Value} {xs : List α} (h : Aside0 (Kd.R d e w base ok v xs)) (hb : Below w'.heap.size w' w1) (t : Kd.R d e w base ok v xs → Kd.R d e w' base ok v xs := by intro h_; (with_reducible repeat (first | apply Kd.R_alloc | apply Kd.R_drewN | apply Kd.R_drew)); exact h_) : Aside0 (Kd.R d e w1 base ok v xs) := ⟨Kd.R_below (t h.out) hb⟩
theorem xz {w : World} {g : Nat} {t : TypeId} {cs : Array Value} {v : Value} (h : Aside0 (w.heap[g]? = some (.cells cs t (0, 0)))) (i : Nat) (e : cs[i]? = some v := by exact rfl) : w.cell? ⟨g, i, none⟩ = some v := (blk_cell h.out i).trans e
section
variable {P : Program} {md : Region.Mode} {ops : Array Oper} {Q : Exit → Act → World → Prop} {S : World → Prop} {ds : List Nat}
theorem xn {fuel : Nat} {l : Array Bool} {a a' : Act} {w : World} (h : wpAnyLast P md ops Q S ds fuel l a' w) (ha : a = a' := by first | (simp only [putAll, Act.put, List.setIfInBounds_toArray, List.set_cons_zero, List.set_cons_succ]; done) | (simp only [putAll, Act.put, List.setIfInBounds_toArray, List.set_cons_zero, List.set_cons_succ]; rfl)) : wpAnyLast P md ops Q S ds fuel l a w := norm_ ha h
theorem xp {T : Bool × List (List Nat × List Nat)} {oi : Oper} {v : Value} {fuel : Nat} {l : Array Bool} {a a' : Act} {w : World} (i : Nat) (N : Option Tmp) (l' : Array Bool) (HT : Aside0 (rtab md ops = T)) (h : wpAnyLast P md ops Q S ds fuel l' a' w)
    (hi : ops[i]? = some oi := by exact rfl) (hN : oi.dst = N := by exact rfl) (hc : anyT T l.toList l'.toList i = true := by kernel_rfl) (hQ : ∀ c a w, Q (.panic c) (a.put oi.dst v) w → Q (.panic c) a w := by exact fun _ _ _ h => h)
    (hy : Yields P ops oi v a := by exact Or.inl ⟨by rfl, by intro w'; go_simp; with_reducible rfl⟩)
    (ha : a.put N v = a' := by simp only [Act.put, List.setIfInBounds_toArray, List.set_cons_zero, List.set_cons_succ, i64_w, i32_w]; rfl) : wpAnyLast P md ops Q S ds (fuel + 1) l a w := pure_ l' hi hN (any_of HT.out hc) hQ hy ha h
theorem yn {fuel : Nat} {l : Array Bool} {a a' : Act} {w : World} (h : wpAnyLast P md ops Q S ds fuel l a' w) (ha : a = a' := by simp only [putAll, Act.put, List.setIfInBounds_toArray, List.set_cons_zero, List.set_cons_succ]; rfl) : wpAnyLast P md ops Q S ds fuel l a w := norm_ ha h
theorem yo {fuel : Nat} {l : Array Bool} {a a' : Act} {w : World} (h : wpAnyLast P md ops Q S ds fuel l a' w) (ha : a = a' := by show Act.put _ (some _) _ = _; simp only [Act.put, List.setIfInBounds_toArray, List.set_cons_zero, List.set_cons_succ, i64_w, i32_w]; rfl) : wpAnyLast P md ops Q S ds fuel l a w := norm_ ha h
theorem xbox {o : Oper} {rest : List Oper} {a : Act} {W : World} (N : Tmp) {cs : Array Value} {t : TypeId}
    (h : ∀ g, g = W.heap.size → ∀ w1, w1.heap[g]? = some (.cells cs t (0, 0)) → Below W.heap.size W w1 → wpList P ops Q rest (a.put o.dst (.pointer (some ⟨g, 0, none⟩))) w1)
    (hgd : o.guard = none := by rfl) (hd : o.dst = some N := by rfl)
    (hrun : (execOp a.eval o).run P W = .ok (.value (.pointer (some ⟨W.heap.size, 0, none⟩))) (W.alloc (.cells cs t (0, 0))) := by first | (go_simp; done) | (go_simp; rfl)) : wpList P ops Q (o :: rest) a W := box_event hgd hd hrun h
end
end Go.Proofs.Ytbiempkdfnfpgaa.Q
