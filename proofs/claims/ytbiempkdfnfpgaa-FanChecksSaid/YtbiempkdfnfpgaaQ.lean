/- Short names for steps that come up again and again in the walks of this seat. -/
import Derived.Test.YtbiempkdfnfpgaaWMore
import Derived.Test.YtbiempkdfnfpgaaWTab
namespace Go.Proofs.Ytbiempkdfnfpgaa.Q
open Go.RowKit Go.Proofs.YtbiempkdfnfpgaaW.PrintWords Go.Proofs.YtbiempkdfnfpgaaW.PrintLast Go.Proofs.YtbiempkdfnfpgaaW.PrintMore

theorem xb {p q : Prop} (h : Aside0 q) (t : q → p := by intro h_; (with_reducible repeat (first | refine blk_drewN ?_ _ | refine blk_drew ?_ | refine blk_alloc ?_ _)); exact h_) : p := t h.out
theorem xk {p q : Prop} (h : Aside0 q) (t : q → p := by intro h_; (with_reducible repeat (first | apply Kd.R_alloc | apply Kd.R_drewN | apply Kd.R_drew)); exact h_) : p := t h.out
theorem xh {p q : Prop} (h : Aside0 q) (t : q → p := by intro h_; repeat (first | (with_reducible first | exact h_ | apply below_alloc | apply pw_below_drewN | apply below_drew1 | refine below_set ?_ (Aside0.out (by assumption))) | exact h_)) : p := t h.out
theorem xl {w w' : World} {g : Nat} {o : Obj} (h : Aside0 (w.heap[g]? = some o)) (t : w.heap[g]? = some o → w'.heap[g]? = some o := by intro h_; (with_reducible repeat (first | refine blk_drewN ?_ _ | refine blk_drew ?_ | refine blk_alloc ?_ _)); exact h_) : g < w'.heap.size := blk_lt (t h.out)
theorem xw {w w' w1 : World} {g : Nat} {o : Obj} (h : Aside0 (w.heap[g]? = some o)) (hb : Below w'.heap.size w' w1) (t : w.heap[g]? = some o → w'.heap[g]? = some o := by intro h_; (with_reducible repeat (first | refine blk_drewN ?_ _ | refine blk_drew ?_ | refine blk_alloc ?_ _)); exact h_) : w1.heap[g]? = some o := blk_below (t h.out) hb
theorem xnl {w w' : World} {g a : Nat} {o : Obj} (hg : a = w'.heap.size) (h : Aside0 (w.heap[g]? = some o)) (t : w.heap[g]? = some o → w'.heap[g]? = some o := by intro h_; (with_reducible repeat (first | refine blk_drewN ?_ _ | refine blk_drew ?_ | refine blk_alloc ?_ _)); exact h_) : g ≠ a := by rw [hg]; exact Nat.ne_of_lt (blk_lt (t h.out))
theorem xng {w w' : World} {g a : Nat} {o : Obj} (hg : a = w'.heap.size) (h : Aside0 (w.heap[g]? = some o)) (t : w.heap[g]? = some o → w'.heap[g]? = some o := by intro h_; (with_reducible repeat (first | refine blk_drewN ?_ _ | refine blk_drew ?_ | refine blk_alloc ?_ _)); exact h_) : a ≠ g := (xnl hg h t).symm
theorem xs {w w1 w' : World} {g : Nat} (hg : g = w'.heap.size) (h : Aside0 (Below w.heap.size w w1)) (t : Below w.heap.size w w1 → Below w.heap.size w w' := by intro h_; repeat (first | (with_reducible first | exact h_ | apply below_alloc | apply pw_below_drewN | apply below_drew1 | refine below_set ?_ (Aside0.out (by assumption))) | exact h_)) : w.heap.size ≤ g := by rw [hg]; exact below_size (t h.out)
theorem xr {p : Prop} (t : p := by first | rfl | (simp; done) | (simp [*]; done)) : p := t
theorem xv {p : Prop} (t : p := by (try simp only [List.map_toArray, List.map_cons, List.map_nil]); first | done | rfl | (simp only [List.length_drop, List.length_take]; rfl)) : p := t
theorem xa {p : Prop} (t : p := by first | (with_reducible assumption) | assumption) : p := t
theorem am {p : Prop} (h : p) : Aside0 p := ⟨h⟩
theorem xc {p q : Prop} (h : Aside0 q) (t : q → p := by intro h_; repeat (first | exact h_ | (with_reducible refine Kd.C_alloc ?_ _) | (with_reducible refine Kd.C_drewN ?_ _) | (with_reducible refine Kd.C_drew ?_))) : p := t h.out
theorem xc2 {p q : Prop} (h : q) (t : q → p := by intro h_; repeat (first | exact h_ | (with_reducible refine Kd.C_alloc ?_ _) | (with_reducible refine Kd.C_drewN ?_ _) | (with_reducible refine Kd.C_drew ?_))) : p := t h
section
variable {P : Program} {md : Region.Mode} {ops : Array Oper} {Q : Exit → Act → World → Prop} {S : World → Prop} {ds : List Nat}
theorem xn {fuel : Nat} {l : Array Bool} {a a' : Act} {w : World} (h : wpAnyLast P md ops Q S ds fuel l a' w) (ha : a = a' := by first | (simp only [putAll, Act.put, List.setIfInBounds_toArray, List.set_cons_zero, List.set_cons_succ]; done) | (simp only [putAll, Act.put, List.setIfInBounds_toArray, List.set_cons_zero, List.set_cons_succ]; rfl)) : wpAnyLast P md ops Q S ds fuel l a w := norm_ ha h
theorem xbox {o : Oper} {rest : List Oper} {a : Act} {W : World} (N : Tmp) {cs : Array Value} {t : TypeId}
    (h : ∀ g, g = W.heap.size → ∀ w1, w1.heap[g]? = some (.cells cs t (0, 0)) → Below W.heap.size W w1 → wpList P ops Q rest (a.put o.dst (.pointer (some ⟨g, 0, none⟩))) w1)
    (hgd : o.guard = none := by rfl) (hd : o.dst = some N := by rfl)
    (hrun : (execOp a.eval o).run P W = .ok (.value (.pointer (some ⟨W.heap.size, 0, none⟩))) (W.alloc (.cells cs t (0, 0))) := by first | (go_simp; done) | (go_simp; rfl)) : wpList P ops Q (o :: rest) a W := box_event hgd hd hrun h
end
end Go.Proofs.Ytbiempkdfnfpgaa.Q
