-- written by a program of this session, a changed copy of the kit print
import Derived.Test.YtbiempkdfnfpgaaPAx0
import Derived.Test.YtbiempkdfnfpgaaQ
namespace Go.Proofs.Ytbiempkdfnfpgaa.PA
open Go.RowKit Go.Proofs.YtbiempkdfnfpgaaW.PrintWords Go.Proofs.YtbiempkdfnfpgaaW.PrintLast Go.Proofs.YtbiempkdfnfpgaaW.PrintMore Go.Proofs.Ytbiempkdfnfpgaa.Q
attribute [local go_sem] Instr.field asAgg part isAgg max2_int min2_int max_two min_two max_three min_three max_four min_four   -- for this text's walks alone
set_option linter.unusedVariables false
set_option linter.unusedSimpArgs false

/-! ### minecontroldraw_Mod: function 13 -/
def minecontroldraw_Mod.f (a0 : Int) (a1 : Int) : Option (Int) := if a1 < 1 then (some 0) else (if a1 = 0 then (none) else (if (Int.tmod a0 a1) < 0 then (some (wrap64 ((Int.tmod a0 a1) + a1))) else (some (Int.tmod a0 a1))))
set_option maxHeartbeats 8000000 in
set_option maxRecDepth 100000 in
theorem minecontroldraw_Mod.calls (a0 : Int) (a1 : Int) (r : Int) (w : World) (h : minecontroldraw_Mod.f a0 a1 = some r) :
  Calls Try.prog 13 #[.int .i64 a0, .int .i64 a1] w fun e w' => e = .returned (.int .i64 r) ∧ Drawn0 w w' := by
 have H : (if a1 < 1 then (some 0) else (if a1 = 0 then (none) else (if (Int.tmod a0 a1) < 0 then (some (wrap64 ((Int.tmod a0 a1) + a1))) else (some (Int.tmod a0 a1))))) = some r := h; clear h
 by_cases c3 : a1 < 1
 ·
  rw [if_pos c3] at H
  have c3b0 : decide (a1 < 1) = true := decide_eq_true c3; clear c3; obtain rfl := Option.some.inj H; go_enter Try.func13, Try.ntmps13; go_wp2; go_ret; exact ⟨by first | rfl | (simp; done) | (simp [*]; done), by repeat (first | exact Drawn0.refl _ | apply Drawn0.step)⟩
 rw [if_neg c3] at H; have c3b0 : decide (a1 < 1) = false := decide_eq_false c3; clear c3
 by_cases c4 : a1 = 0
 · rw [if_pos c4] at H; exact absurd H (by simp)
 rw [if_neg c4] at H; have c4b0 : (a1 == 0) = false := beq_eq_false_iff_ne.mpr c4; have c4b1 : (a1 != 0) = true := bne_iff_ne.mpr c4
 by_cases c5 : (Int.tmod a0 a1) < 0
 ·
  rw [if_pos c5] at H
  have c5b0 : decide ((Int.tmod a0 a1) < 0) = true := decide_eq_true c5; clear c5; obtain rfl := Option.some.inj H; go_enter Try.func13, Try.ntmps13; go_wp2; go_ret; exact ⟨by first | rfl | (simp; done) | (simp [*]; done), by repeat (first | exact Drawn0.refl _ | apply Drawn0.step)⟩
 rw [if_neg c5] at H; have c5b0 : decide ((Int.tmod a0 a1) < 0) = false := decide_eq_false c5; clear c5; obtain rfl := Option.some.inj H; go_enter Try.func13, Try.ntmps13; go_wp2; go_ret; exact ⟨by first | rfl | (simp; done) | (simp [*]; done), by repeat (first | exact Drawn0.refl _ | apply Drawn0.step)⟩
set_option maxHeartbeats 8000000 in
set_option maxRecDepth 100000 in
theorem minecontroldraw_Mod.calls0 (a0 : Int) (a1 : Int) (r : Int) (w : World) (h : minecontroldraw_Mod.f a0 a1 = some r) :
  Calls Try.prog 13 #[.int .i64 a0, .int .i64 a1] w fun e w' => e = .returned (.int .i64 r) ∧ w = w' := by
 have H : (if a1 < 1 then (some 0) else (if a1 = 0 then (none) else (if (Int.tmod a0 a1) < 0 then (some (wrap64 ((Int.tmod a0 a1) + a1))) else (some (Int.tmod a0 a1))))) = some r := h; clear h
 by_cases c3 : a1 < 1
 ·
  rw [if_pos c3] at H
  have c3b0 : decide (a1 < 1) = true := decide_eq_true c3; clear c3; obtain rfl := Option.some.inj H; go_enter Try.func13, Try.ntmps13; go_wp2; go_ret; exact ⟨by first | rfl | (simp; done) | (simp [*]; done), rfl⟩
 rw [if_neg c3] at H; have c3b0 : decide (a1 < 1) = false := decide_eq_false c3; clear c3
 by_cases c4 : a1 = 0
 · rw [if_pos c4] at H; exact absurd H (by simp)
 rw [if_neg c4] at H; have c4b0 : (a1 == 0) = false := beq_eq_false_iff_ne.mpr c4; have c4b1 : (a1 != 0) = true := bne_iff_ne.mpr c4
 by_cases c5 : (Int.tmod a0 a1) < 0
 ·
  rw [if_pos c5] at H
  have c5b0 : decide ((Int.tmod a0 a1) < 0) = true := decide_eq_true c5; clear c5; obtain rfl := Option.some.inj H; go_enter Try.func13, Try.ntmps13; go_wp2; go_ret; exact ⟨by first | rfl | (simp; done) | (simp [*]; done), rfl⟩
 rw [if_neg c5] at H; have c5b0 : decide ((Int.tmod a0 a1) < 0) = false := decide_eq_false c5; clear c5; obtain rfl := Option.some.inj H; go_enter Try.func13, Try.ntmps13; go_wp2; go_ret; exact ⟨by first | rfl | (simp; done) | (simp [*]; done), rfl⟩

/-- A state of type 50 at block g of W; what its slices lead to came in by w0. -/
def IsS50 (w0 W : World) (g : Nat) (f0 : List Int) (f1 : Int) : Prop := ∃ A0 c0, W.heap[g]? = some (.cells #[.slice A0 f0.length c0, .int .i64 f1] 50 (0, 0)) ∧ w0.heap.size ≤ g ∧ Kd.C (Kd.int .u8) w0 A0 f0.length f0
theorem IsS50.grown {w0 W : World} {g : Nat} {f0 : List Int} {f1 : Int} {W1 : World} {row : Option Nat} (h : IsS50 w0 W g f0 f1) (hw : W.grownBy W1 row) (hne : some g ≠ row) : IsS50 w0 W1 g f0 f1 := by
 obtain ⟨A0, c0, hb, hg, hr0⟩ := h; exact ⟨A0, c0, blk_grown hb hw hne, hg, hr0⟩
theorem IsS50.own_neN {w0 W : World} {g : Nat} {f0 : List Int} {f1 : Int} {α : Type} {d : Kd α} {e : Nat} {base : Nat} {ok : Nat → Prop} {v : Value} {xs : List α} (h : IsS50 w0 W g f0 f1) (ho : Kd.N d e W base ok v xs) (ht : e ≠ 50) : some g ≠ v.ownBlock := by
 obtain ⟨A0, c0, hb, hg, hr0⟩ := h; exact Kd.N_ne ho hb ht
theorem IsS50.fresh {w0 W : World} {g : Nat} {f0 : List Int} {f1 : Int} (h : IsS50 w0 W g f0 f1) : ∀ k, W.heap.size ≤ k → k ≠ g := by
 obtain ⟨A0, c0, hb, hg, hr0⟩ := h; exact Kd.freshB hb
theorem IsS50.kept {w0 W : World} {g : Nat} {f0 : List Int} {f1 : Int} {W1 : World} {S : Nat → Prop} (h : IsS50 w0 W g f0 f1) (hk : Kept W W1 S) (hne : ¬ S g) : IsS50 w0 W1 g f0 f1 := by
 obtain ⟨A0, c0, hb, hg, hr0⟩ := h; exact ⟨A0, c0, blk_kept hb hk hne, hg, hr0⟩
theorem IsS50.below {w0 W : World} {g : Nat} {f0 : List Int} {f1 : Int} {W1 : World} (h : IsS50 w0 W g f0 f1) (hw : Below W.heap.size W W1) : IsS50 w0 W1 g f0 f1 := h.grown (grown_of_below hw none) (by simp)
theorem IsS50.alloc {w0 W : World} {g : Nat} {f0 : List Int} {f1 : Int} (h : IsS50 w0 W g f0 f1) (o : Obj) : IsS50 w0 (W.alloc o) g f0 f1 := h.below (below_alloc (Below.refl _ _) o)
theorem IsS50.drewN {w0 W : World} {g : Nat} {f0 : List Int} {f1 : Int} (h : IsS50 w0 W g f0 f1) (m : Nat) : IsS50 w0 (W.drewN m) g f0 f1 := h
theorem IsS50.drew {w0 W : World} {g : Nat} {f0 : List Int} {f1 : Int} (h : IsS50 w0 W g f0 f1) : IsS50 w0 W.drew g f0 f1 := h
theorem IsS50.at_ {w0 W : World} {g : Nat} {f0 : List Int} {f1 : Int} {w' : World} {m : Nat} (hq : W.drewN m = w') (h : IsS50 w0 W g f0 f1) : IsS50 w0 w' g f0 f1 := by subst hq; exact IsS50.drewN h m
theorem IsS50.apart {w0 W : World} {g : Nat} {f0 : List Int} {f1 : Int} {α : Type} {d : Kd α} {e : Nat} {base : Nat} {ok : Nat → Prop} {v : Value} {xs : List α} (h : IsS50 w0 W g f0 f1) (ho : d.R e W base ok v xs) (ht : ∀ q, q ∈ e :: d.E → q ≠ 50) : d.R e W base (fun k => ok k ∧ k ≠ g) v xs := by
 obtain ⟨A0, c0, hb, hg, hr0⟩ := h; exact Kd.R_types ho hb ht
theorem IsS50.own_ne {w0 W : World} {g : Nat} {f0 : List Int} {f1 : Int} {α : Type} {d : Kd α} {e : Nat} {base : Nat} {ok : Nat → Prop} {v : Value} {xs : List α} (h : IsS50 w0 W g f0 f1) (ho : d.R e W base ok v xs) (ht : e ≠ 50) : some g ≠ v.ownBlock := by
 obtain ⟨A0, c0, hb, hg, hr0⟩ := h; exact Kd.R_ne ho hb ht
theorem IsS50.apartQ {w0 W : World} {g : Nat} {f0 : List Int} {f1 : Int} {α : Type} {d : Kd α} {e : Nat} {base : Nat} {ok : Nat → Prop} {v : Value} {xs : List α} (h : IsS50 w0 W g f0 f1) (ho : d.Q e W base ok v xs) (ht : ∀ q, q ∈ e :: d.E → q ≠ 50) : d.Q e W base (fun k => ok k ∧ k ≠ g) v xs := by
 obtain ⟨A0, c0, hb, hg, hr0⟩ := h; exact Kd.Q_types ho hb ht
theorem IsS50.own_neQ {w0 W : World} {g : Nat} {f0 : List Int} {f1 : Int} {α : Type} {d : Kd α} {e : Nat} {base : Nat} {ok : Nat → Prop} {v : Value} {xs : List α} (h : IsS50 w0 W g f0 f1) (ho : d.Q e W base ok v xs) (ht : e ≠ 50) : some g ≠ v.ownBlock := by
 obtain ⟨A0, c0, hb, hg, hr0⟩ := h; exact Kd.Q_ne ho hb ht
theorem IsS50.apartS {w0 W : World} {g : Nat} {f0 : List Int} {f1 : Int} {α : Type} {d : Kd α} {e : Nat} {base : Nat} {ok : Nat → Prop} {v : Value} {xs : List α} (h : IsS50 w0 W g f0 f1) (ho : d.S e W base ok v xs) (ht : ∀ q, q ∈ e :: d.E → q ≠ 50) : d.S e W base (fun k => ok k ∧ k ≠ g) v xs := by
 obtain ⟨A0, c0, hb, hg, hr0⟩ := h; exact Kd.S_types ho hb ht
theorem IsS50.own_neS {w0 W : World} {g : Nat} {f0 : List Int} {f1 : Int} {α : Type} {d : Kd α} {e : Nat} {base : Nat} {ok : Nat → Prop} {v : Value} {xs : List α} (h : IsS50 w0 W g f0 f1) (ho : d.S e W base ok v xs) (ht : e ≠ 50) : some g ≠ v.ownBlock := by
 obtain ⟨A0, c0, hb, hg, hr0⟩ := h; exact Kd.S_ne ho hb ht
theorem IsS50.lt {w0 W : World} {g : Nat} {f0 : List Int} {f1 : Int} (h : IsS50 w0 W g f0 f1) : g < W.heap.size := by
 obtain ⟨A0, c0, hb, hg, hr0⟩ := h; exact blk_lt hb
theorem IsS50.ge {w0 W : World} {g : Nat} {f0 : List Int} {f1 : Int} (h : IsS50 w0 W g f0 f1) : w0.heap.size ≤ g := by
 obtain ⟨A0, c0, hb, hg, hr0⟩ := h; exact hg
theorem IsS50.ne_blk {w0 W : World} {g : Nat} {f0 : List Int} {f1 : Int} {a : Nat} {cs : Array Value} {t : TypeId} {fr : Nat × Nat} (h : IsS50 w0 W g f0 f1) (hb2 : W.heap[a]? = some (.cells cs t fr)) (ht : t ≠ 50) : g ≠ a := by
 obtain ⟨A0, c0, hb, hg, hr0⟩ := h; rintro rfl; rw [hb] at hb2; injection hb2 with hb2; injection hb2 with _ ht2; exact ht ht2.symm
theorem IsS50.far {w0 W : World} {g : Nat} {f0 : List Int} {f1 : Int} {p : Addr} (h : IsS50 w0 W g f0 f1) (hne : g ≠ p.block) (u : Value) : IsS50 w0 (W.setCell p u) g f0 f1 := by
 obtain ⟨A0, c0, hb, hg, hr0⟩ := h; exact ⟨A0, c0, blk_far hb hne u, hg, hr0⟩
theorem cellS50_0 {W : World} {g : Nat} {A0 : Option Addr} {c0 : Nat} {f0 : List Int} {f1 : Int} (h : W.heap[g]? = some (.cells #[.slice A0 f0.length c0, .int .i64 f1] 50 (0, 0))) : W.cell? ⟨g, 0, none⟩ = some (.slice A0 f0.length c0) := (blk_cell h 0).trans rfl
theorem cellS50_1 {W : World} {g : Nat} {A0 : Option Addr} {c0 : Nat} {f0 : List Int} {f1 : Int} (h : W.heap[g]? = some (.cells #[.slice A0 f0.length c0, .int .i64 f1] 50 (0, 0))) : W.cell? ⟨g, 1, none⟩ = some (.int .i64 f1) := (blk_cell h 1).trans rfl
theorem IsS50.set_1 {w0 W : World} {g : Nat} {f0 : List Int} {f1 : Int} (h : IsS50 w0 W g f0 f1) (x : Int) : IsS50 w0 (W.setCell ⟨g, 1, none⟩ (.int .i64 x)) g f0 x := by
 obtain ⟨A0, c0, hb, hg, hr0⟩ := h; exact ⟨A0, c0, by simpa using blk_set hb 1 (.int .i64 x), hg, hr0⟩
theorem IsS50.new (w0 W : World) (A0 : Option Addr) (c0 : Nat) (f0 : List Int) (f1 : Int) (hB : Below w0.heap.size w0 W) (hr0 : Kd.C (Kd.int .u8) w0 A0 f0.length f0) : IsS50 w0 (W.alloc (.cells #[.slice A0 f0.length c0, .int .i64 f1] 50)) W.heap.size f0 f1 := ⟨A0, c0, by simpa using heap_alloc_new W _, hB.size, hr0⟩

/-! ### minecontroldraw_New: function 18 -/
def minecontroldraw_New.f (l0 : List Int) : Option (List Int × Int) := if 0 ≤ (mn (l0.length : Int) 300) then (if (mn (l0.length : Int) 300) ≤ (l0.length : Int) then (some (l0.take ((mn (l0.length : Int) 300) : Int).toNat, 0)) else (none)) else (none)
set_option maxHeartbeats 8000000 in
set_option maxRecDepth 100000 in
theorem minecontroldraw_New.calls (A0 : Option Addr) (c0 : Nat) (l0 : List Int) (r1 : List Int) (r2 : Int) (w0 w : World) (hB : Below w0.heap.size w0 w) (hr0 : Kd.C (Kd.int .u8) w0 A0 l0.length l0) (hc0 : l0.length ≤ c0) (h : minecontroldraw_New.f l0 = some (r1, r2)) :
  Calls Try.prog 18 #[.slice A0 l0.length c0] w fun e w' => ∃ g_ : Nat, e = .returned (.pointer (some ⟨g_, 0, none⟩)) ∧ IsS50 w0 w' g_ r1 r2 ∧ Below w0.heap.size w0 w' ∧ Below w.heap.size w w' := by
 have hu50 := Try.underlying50; have HR0 := am hr0; have HC0 := am hc0; clear hr0 hc0; have HBW := am (Below.refl w.heap.size w); have HW0 := am hB.size; have HB := am hB; clear hB; have H : (if 0 ≤ (mn (l0.length : Int) 300) then (if (mn (l0.length : Int) 300) ≤ (l0.length : Int) then (some (l0.take ((mn (l0.length : Int) 300) : Int).toNat, 0)) else (none)) else (none)) = some (r1, r2) := h; clear h; obtain ⟨ji2, hji2⟩ : ∃ j_ : Int, (mn (l0.length : Int) 300) = j_ := ⟨_, rfl⟩; (replace H : (if 0 ≤ (ji2) then (if (ji2) ≤ (l0.length : Int) then (some (l0.take ((ji2) : Int).toNat, 0)) else (none)) else (none)) = some (r1, r2) := by first | (rw [hji2] at H; exact H) | (simp only [hji2] at H ⊢; exact H)); (try (have hji2h : ji2 ≤ 300 := by (rw [← hji2]; unfold mn; (repeat' split) <;> omega))); (try (have hji2g : ji2 ≤ 64 := by omega)); (try (have hji2l : 0 ≤ ji2 := by (rw [← hji2]; unfold mn; (repeat' split) <;> omega))); (try (have hji2m : 0 ≤ ji2 := by omega)); have hji2_ : (if 300 < (l0.length : Int) then 300 else (l0.length : Int)) = ji2 := hji2
 by_cases c3 : 0 ≤ (ji2)
 ·
  rw [if_pos c3] at H
  have c3b0 := eq_true c3; have c3b1 : decide (0 ≤ (ji2)) = true := decide_eq_true c3; clear c3
  by_cases c4 : (ji2) ≤ (l0.length : Int)
  rotate_left
  · rw [if_neg c4] at H; exact absurd H (by simp)
  rw [if_pos c4] at H; have c4b0 := eq_true c4; have c4b1 : decide ((ji2) ≤ (l0.length : Int)) = true := decide_eq_true c4; clear c4; simp only [Option.some.injEq, Prod.mk.injEq] at H; obtain ⟨rfl, rfl⟩ := H; obtain ⟨i05, hi05, _, hsz5, _⟩ := info_parts info5; obtain ⟨hcut5, hA5, hC5⟩ := print_take_of (P := Try.prog) (Value.int .u8) 0 22 5 .i64 Try.underlying22 hi05 hsz5 A0 c0 l0 (ji2) (of_decide_eq_true xa) (of_decide_eq_true xa) HC0.out; have HR101 := am (Kd.C_of_reads (h1 := fun _ => rfl) (hA5 _ (Kd.reads_of_C HR0.out))); have HC101 := am hC5; clear hA5 hC5 hi05 hsz5; go_enter Try.func18, Try.ntmps18; go_wp2_with (first | ((with_reducible refine gate_dst (N := 9) rfl ?_); refine xbox 9 (cs := #[.slice A0 (l0.take ((ji2) : Int).toNat).length c0, .int .i64 0]) (t := 50) ?_; intro gb102 hg w6 hbox hb; replace HB := yb HB hb; replace BK102 := am hbox; replace GW102 := am ((by rw [hg]; exact (below_size (by repeat (first | (with_reducible first | exact HBW.out | apply below_alloc | apply pw_below_drewN | apply below_drew1) | exact HBW.out))) : w.heap.size ≤ gb102)); replace GE102 := am ((Nat.le_trans HW0.out (by rw [hg]; exact (below_size (by repeat (first | (with_reducible first | exact HBW.out | apply below_alloc | apply pw_below_drewN | apply below_drew1) | exact HBW.out))) : w.heap.size ≤ gb102) : w0.heap.size ≤ gb102)); replace HBW := am (below_step HBW.out hb); clear hb hbox hg)); go_ret; exact ⟨_, rfl, (show IsS50 w0 _ gb102 (l0.take ((ji2) : Int).toNat) 0 from ⟨_, _, xb BK102, GE102.out, HR101.out⟩), xh HB, by repeat (first | (with_reducible first | exact HBW.out | apply below_alloc | apply pw_below_drewN | apply below_drew1 | refine below_set ?_ GW102.out) | exact HBW.out)⟩
 rw [if_neg c3] at H; exact absurd H (by simp)

/-! ### minecontroldraw_Codes_Next: function 19 -/
def minecontroldraw_Codes_Next.j0 : Nat → Int → Bool → List Int → Int → Option (Int × Int)
 | 0, _, _, _, _ => none
 | k + 1, x1, x19, x1000, x1001 => if x19 = true then (some (0, x1001)) else (if 0 ≤ (wrap64 ((wrap64 (x1001 + 1)) - 1)) then (if (wrap64 ((wrap64 (x1001 + 1)) - 1)) < (x1000.length : Int) then (if x1 > 256 then (if (wrap64 (x1001 + 1)) < (x1000.length : Int) then (if 0 ≤ (wrap64 (x1001 + 1)) then (if x1 = 0 then (none) else (some (Int.tmod (wrap64 ((wrap64 ((wrap64 (rd x1000 (wrap64 ((wrap64 (x1001 + 1)) - 1)))) * 256)) + (wrap64 (rd x1000 (wrap64 (x1001 + 1)))))) x1, wrap64 ((wrap64 (x1001 + 1)) + 1)))) else (none)) else (if x1 = 0 then (none) else (some (Int.tmod (wrap64 (rd x1000 (wrap64 ((wrap64 (x1001 + 1)) - 1)))) x1, wrap64 (x1001 + 1))))) else (if x1 = 0 then (none) else (some (Int.tmod (wrap64 (rd x1000 (wrap64 ((wrap64 (x1001 + 1)) - 1)))) x1, wrap64 (x1001 + 1))))) else (none)) else (none))
def minecontroldraw_Codes_Next.f (k : Nat) (s0_0 : List Int) (s0_1 : Int) (a1 : Int) : Option (Int × Int) := if a1 < 1 then (minecontroldraw_Codes_Next.j0 k a1 true s0_0 s0_1) else (minecontroldraw_Codes_Next.j0 k a1 (decide (s0_1 ≥ (s0_0.length : Int))) s0_0 s0_1)
theorem minecontroldraw_Codes_Next.mono_l : ∀ k, (∀ y0 y1 y2 y3, LeO (minecontroldraw_Codes_Next.j0 k y0 y1 y2 y3) (minecontroldraw_Codes_Next.j0 (k + 1) y0 y1 y2 y3))
 | 0 => fun _ _ _ _ r h => by simp [minecontroldraw_Codes_Next.j0] at h
 | k + 1 => by
  have ih0 := minecontroldraw_Codes_Next.mono_l k
  intro y0 y1 y2 y3
  unfold minecontroldraw_Codes_Next.j0
  repeat' first
  | (with_reducible exact ih0 _ _ _ _)
  | (with_reducible exact LeO.refl _)
  | (with_reducible exact LeO.none _)
  | (with_reducible refine LeO.ite ?_ ?_)
  | (with_reducible refine LeO.bind ?_ (fun _ => ?_))
  | exact ih0 _ _ _ _
  | exact LeO.none _
  | refine LeO.ite ?_ ?_
  | refine LeO.bind ?_ (fun _ => ?_)
theorem minecontroldraw_Codes_Next.mono : ∀ a0 a1 a2 k, LeO (minecontroldraw_Codes_Next.f k a0 a1 a2) (minecontroldraw_Codes_Next.f (k + 1) a0 a1 a2) := by
 intro a0 a1 a2 k; have ih0 := minecontroldraw_Codes_Next.mono_l k; unfold minecontroldraw_Codes_Next.f
 repeat' first
   | (with_reducible exact ih0 _ _ _ _)
   | (with_reducible exact LeO.refl _)
   | (with_reducible exact LeO.none _)
   | (with_reducible refine LeO.ite ?_ ?_)
   | (with_reducible refine LeO.bind ?_ (fun _ => ?_))
   | exact ih0 _ _ _ _
   | exact LeO.none _
   | refine LeO.ite ?_ ?_
   | refine LeO.bind ?_ (fun _ => ?_)
set_option maxHeartbeats 8000000 in
set_option maxRecDepth 100000 in
theorem minecontroldraw_Codes_Next.calls (k : Nat) (g : Nat) (s0_0 : List Int) (s0_1 : Int) (a1 : Int) (r1 : Int) (r2 : Int) (w0 w : World) (hI : IsS50 w0 w g s0_0 s0_1) (hB : Below w0.heap.size w0 w) (h : minecontroldraw_Codes_Next.f k s0_0 s0_1 a1 = some (r1, r2)) :
  Calls Try.prog 19 #[.pointer (some ⟨g, 0, none⟩), .int .i64 a1] w fun e w' => e = .returned (.int .i64 r1) ∧ IsS50 w0 w' g s0_0 r2 ∧ Below w0.heap.size w0 w' ∧ KeepBut w w' g none := by
 have HI0 := am hI; have HK := am (KeepBut.refl w g none); have HL := am hB.size; clear hI; have HW0 := am hB.size; have HB := am hB; clear hB; have H : (if a1 < 1 then (minecontroldraw_Codes_Next.j0 k a1 true s0_0 s0_1) else (minecontroldraw_Codes_Next.j0 k a1 (decide (s0_1 ≥ (s0_0.length : Int))) s0_0 s0_1)) = some (r1, r2) := h; clear h; have HC3 := am H; clear H; go_enter Try.func19, Try.ntmps19; go_upto_region 1 with (fail)
 repeat (go_quiet (fail); go_upto_region 1 with (fail))
 go_cut [19] (fun v19 wc => ∃ (kq : Nat) (x19_2 : Bool), v19 = .bool x19_2 ∧ Aside0 (minecontroldraw_Codes_Next.j0 kq a1 x19_2 s0_0 s0_1 = some (r1, r2)) ∧ Aside0 (kq ≤ k) ∧ Aside0 (IsS50 w0 wc g s0_0 s0_1) ∧ Aside0 (KeepBut w wc g none) ∧ Aside0 (Below w0.heap.size w0 wc))
 case first =>
  have H := HC3.out; clear HC3
  by_cases c4 : a1 < 1
  ·
   rw [if_pos c4] at H
   have c4b0 : decide (a1 < 1) = true := decide_eq_true c4; clear c4; (first | rw [c4b0] | (simp only [i64_w, i32_w]; rw [c4b0]) | skip); have H' := am H; clear H; go_wp2
   repeat (go_quiet (fail); try go_wp2)
   go_meet
   case rel => exact ⟨_, (true), xr, H', ⟨by first | omega | exact Nat.le_refl _⟩, ⟨by repeat (first | (with_reducible first | exact HI0.out | apply IsS50.alloc | apply IsS50.drewN | apply IsS50.drew | apply IsS50.set_1) | exact HI0.out)⟩, ⟨by repeat (first | (with_reducible first | exact HK.out | apply KeepBut.set_ | apply keep_drewN | apply keep_drew | apply keep_alloc) | exact HK.out)⟩, ⟨by repeat (first | (with_reducible first | exact HB.out | apply below_alloc | apply pw_below_drewN | apply below_drew1 | refine below_set ?_ (IsS50.ge HI0.out)) | exact HB.out)⟩⟩
  rw [if_neg c4] at H; have c4b0 : decide (a1 < 1) = false := decide_eq_false c4; clear c4; (first | rw [c4b0] | (simp only [i64_w, i32_w]; rw [c4b0]) | skip); have H' := am H; clear H; obtain ⟨ASz5_0, cSz5_0, HGz5, hgz5, HSz5_0⟩ := HI0.out; have hcz5_0 := cellS50_0 HGz5; have hcz5_1 := cellS50_1 HGz5; have hfz5_1 := blk_frozen HGz5 1; clear HGz5 hgz5; go_wp2
  repeat (go_quiet (fail); try go_wp2)
  go_meet
  case rel => exact ⟨_, (decide (s0_1 ≥ (s0_0.length : Int))), xr, H', ⟨by first | omega | exact Nat.le_refl _⟩, ⟨by repeat (first | (with_reducible first | exact HI0.out | apply IsS50.alloc | apply IsS50.drewN | apply IsS50.drew | apply IsS50.set_1) | exact HI0.out)⟩, ⟨by repeat (first | (with_reducible first | exact HK.out | apply KeepBut.set_ | apply keep_drewN | apply keep_drew | apply keep_alloc) | exact HK.out)⟩, ⟨by repeat (first | (with_reducible first | exact HB.out | apply below_alloc | apply pw_below_drewN | apply below_drew1 | refine below_set ?_ (IsS50.ge HI0.out)) | exact HB.out)⟩⟩
 case rest =>
  clear HC3
  try clear c1
  try clear p2
  try clear c4
  try clear c4b0
  try clear hcz5_0
  try clear hcz5_1
  try clear hfz5_1
  obtain ⟨kq, x19_2, rfl, HA, HJ2, HI0, HK, HB⟩ := hcut
  cases kq with
  | zero => exact absurd HA.out (by simp [minecontroldraw_Codes_Next.j0])
  | succ kj2 =>
   have H := HA.out; clear HA; simp only [minecontroldraw_Codes_Next.j0] at H
   by_cases c6 : x19_2 = true
   ·
    subst c6
    (have H1 : (some (0, s0_1)) = some (r1, r2) := by rw [if_pos rfl] at H; exact H); clear H; have H := H1; clear H1; simp only [Option.some.injEq, Prod.mk.injEq] at H; obtain ⟨rfl, rfl⟩ := H; go_wp2
    repeat (go_quiet (fail); try go_wp2)
    go_ret; exact ⟨by first | rfl | (simp [errW_none, errW_some] <;> rfl) | (simp [*, errW_none, errW_some] <;> rfl), by repeat (first | (with_reducible first | exact HI0.out | apply IsS50.alloc | apply IsS50.drewN | apply IsS50.drew | apply IsS50.set_1) | exact HI0.out), by repeat (first | (with_reducible first | exact HB.out | apply below_alloc | apply pw_below_drewN | apply below_drew1 | refine below_set ?_ (IsS50.ge HI0.out)) | exact HB.out), by repeat (first | (with_reducible first | exact HK.out | apply KeepBut.set_ | apply keep_drewN | apply keep_drew | apply keep_alloc) | exact HK.out)⟩
   replace c6 := Bool.eq_false_iff.mpr c6; subst c6; (have H1 : (if 0 ≤ (wrap64 ((wrap64 (s0_1 + 1)) - 1)) then (if (wrap64 ((wrap64 (s0_1 + 1)) - 1)) < (s0_0.length : Int) then (if a1 > 256 then (if (wrap64 (s0_1 + 1)) < (s0_0.length : Int) then (if 0 ≤ (wrap64 (s0_1 + 1)) then (if a1 = 0 then (none) else (some (Int.tmod (wrap64 ((wrap64 ((wrap64 (rd s0_0 (wrap64 ((wrap64 (s0_1 + 1)) - 1)))) * 256)) + (wrap64 (rd s0_0 (wrap64 (s0_1 + 1)))))) a1, wrap64 ((wrap64 (s0_1 + 1)) + 1)))) else (none)) else (if a1 = 0 then (none) else (some (Int.tmod (wrap64 (rd s0_0 (wrap64 ((wrap64 (s0_1 + 1)) - 1)))) a1, wrap64 (s0_1 + 1))))) else (if a1 = 0 then (none) else (some (Int.tmod (wrap64 (rd s0_0 (wrap64 ((wrap64 (s0_1 + 1)) - 1)))) a1, wrap64 (s0_1 + 1))))) else (none)) else (none)) = some (r1, r2) := by rw [if_neg (show ¬ (false = true) by decide)] at H; exact H); clear H; have H := H1; clear H1; obtain ⟨ji7, hji7⟩ : ∃ j_ : Int, (wrap64 ((wrap64 (s0_1 + 1)) - 1)) = j_ := ⟨_, rfl⟩; (replace H : (if 0 ≤ (ji7) then (if (ji7) < (s0_0.length : Int) then (if a1 > 256 then (if (wrap64 (s0_1 + 1)) < (s0_0.length : Int) then (if 0 ≤ (wrap64 (s0_1 + 1)) then (if a1 = 0 then (none) else (some (Int.tmod (wrap64 ((wrap64 ((wrap64 (rd s0_0 (ji7))) * 256)) + (wrap64 (rd s0_0 (wrap64 (s0_1 + 1)))))) a1, wrap64 ((wrap64 (s0_1 + 1)) + 1)))) else (none)) else (if a1 = 0 then (none) else (some (Int.tmod (wrap64 (rd s0_0 (ji7))) a1, wrap64 (s0_1 + 1))))) else (if a1 = 0 then (none) else (some (Int.tmod (wrap64 (rd s0_0 (ji7))) a1, wrap64 (s0_1 + 1))))) else (none)) else (none)) = some (r1, r2) := by first | (rw [hji7] at H; exact H) | (simp only [hji7] at H ⊢; exact H)); have hji7w : (IntKind.i64.wrap ((wrap64 (s0_1 + 1)) - 1)) = ji7 := (i64_w _).trans hji7
   by_cases c8 : 0 ≤ (ji7)
   ·
    rw [if_pos c8] at H
    have c8b0 : decide (0 ≤ (ji7)) = true := decide_eq_true c8; clear c8
    by_cases c9 : (ji7) < (s0_0.length : Int)
    rotate_left
    · rw [if_neg c9] at H; exact absurd H (by simp)
    rw [if_pos c9] at H; have c9b0 : decide ((ji7) < (s0_0.length : Int)) = true := decide_eq_true c9; clear c9
    by_cases c10 : a1 > 256
    ·
     rw [if_pos c10] at H
     have c10b0 : decide (256 < a1) = true := decide_eq_true c10; clear c10
     by_cases c11 : (wrap64 (s0_1 + 1)) < (s0_0.length : Int)
     ·
      rw [if_pos c11] at H
      have c11b0 : decide ((wrap64 (s0_1 + 1)) < (s0_0.length : Int)) = true := decide_eq_true c11; clear c11; obtain ⟨ji12, hji12⟩ : ∃ j_ : Int, (wrap64 (s0_1 + 1)) = j_ := ⟨_, rfl⟩; (replace H : (if 0 ≤ (ji12) then (if a1 = 0 then (none) else (some (Int.tmod (wrap64 ((wrap64 ((wrap64 (rd s0_0 (ji7))) * 256)) + (wrap64 (rd s0_0 (ji12))))) a1, wrap64 ((ji12) + 1)))) else (none)) = some (r1, r2) := by first | (rw [hji12] at H; exact H) | (simp only [hji12] at H ⊢; exact H)); (try rw [hji12] at c11b0); have hji12w : (IntKind.i64.wrap (s0_1 + 1)) = ji12 := (i64_w _).trans hji12; (try rw [hji12] at hji7); (try rw [hji12] at hji7w)
      by_cases c13 : 0 ≤ (ji12)
      rotate_left
      · rw [if_neg c13] at H; exact absurd H (by simp)
      rw [if_pos c13] at H; have c13b0 : decide (0 ≤ (ji12)) = true := decide_eq_true c13; clear c13
      by_cases c14 : a1 = 0
      · rw [if_pos c14] at H; exact absurd H (by simp)
      rw [if_neg c14] at H; have c14b0 : (a1 == 0) = false := beq_eq_false_iff_ne.mpr c14; have c14b1 : (a1 != 0) = true := bne_iff_ne.mpr c14; simp only [Option.some.injEq, Prod.mk.injEq] at H; obtain ⟨rfl, rfl⟩ := H; obtain ⟨ASz15_0, cSz15_0, HGz15, hgz15, HSz15_0⟩ := HI0.out; have hcz15_0 := cellS50_0 HGz15; have hcz15_1 := cellS50_1 HGz15; have hfz15_1 := blk_frozen HGz15 1; clear HGz15 hgz15; have p103 : 0 ≤ ((ji7) : Int) := of_decide_eq_true xa; have q103 : (ji7) < (s0_0.length : Int) := of_decide_eq_true xa; obtain ⟨ad103, e103, hx103_0⟩ := Kd.at_int HSz15_0 (ji7) p103 q103
      cases e103
      have hn103_0 : ad103.block ≠ g := Nat.ne_of_lt (Nat.lt_of_lt_of_le (by have := World.block_lt_of_cell? _ _ hx103_0; first | rwa [add_block] at this | exact this) (IsS50.ge HI0.out)); replace hx103_0 := pw_cell_below HB.out hx103_0; replace hx103_0 := (cell_far (p := ⟨g, 1, none⟩) (by first | (rw [add_block]; exact hn103_0) | (show (Addr.add _ _).block ≠ _; rw [add_block]; exact hn103_0) | exact hn103_0) (.int .i64 ji12)).trans hx103_0; (try have hy103_0 := fun (n_ : Nat) => (show (((wc.drewN n_).setCell ⟨g, 1, none⟩ (.int .i64 ji12))).cell? _ = some _ from hx103_0)); clear hn103_0; replace p103 := eq_true p103; replace q103 := eq_true q103; have p104 : 0 ≤ ((ji12) : Int) := of_decide_eq_true xa; have q104 : (ji12) < (s0_0.length : Int) := of_decide_eq_true xa; obtain ⟨ad104, e104, hx104_0⟩ := Kd.at_int HSz15_0 (ji12) p104 q104; obtain rfl : ad103 = ad104 := (by injection e104); have hn104_0 : ad103.block ≠ g := Nat.ne_of_lt (Nat.lt_of_lt_of_le (by have := World.block_lt_of_cell? _ _ hx104_0; first | rwa [add_block] at this | exact this) (IsS50.ge HI0.out)); replace hx104_0 := pw_cell_below HB.out hx104_0; replace hx104_0 := (cell_far (p := ⟨g, 1, none⟩) (by first | (rw [add_block]; exact hn104_0) | (show (Addr.add _ _).block ≠ _; rw [add_block]; exact hn104_0) | exact hn104_0) (.int .i64 ji12)).trans hx104_0; (try have hy104_0 := fun (n_ : Nat) => (show (((wc.drewN n_).setCell ⟨g, 1, none⟩ (.int .i64 ji12))).cell? _ = some _ from hx104_0)); clear hn104_0; replace p104 := eq_true p104; replace q104 := eq_true q104; go_wp2
      repeat (go_quiet (fail); try go_wp2)
      go_ret; exact ⟨by first | rfl | (simp [errW_none, errW_some] <;> rfl) | (simp only [← hji7, ← hji12]; first | rfl | (simp [errW_none, errW_some] <;> rfl)) | (simp [*, errW_none, errW_some] <;> rfl), by repeat (first | (with_reducible first | exact HI0.out | apply IsS50.alloc | apply IsS50.drewN | apply IsS50.drew | apply IsS50.set_1) | exact HI0.out), by repeat (first | (with_reducible first | exact HB.out | apply below_alloc | apply pw_below_drewN | apply below_drew1 | refine below_set ?_ (IsS50.ge HI0.out)) | exact HB.out), by repeat (first | (with_reducible first | exact HK.out | apply KeepBut.set_ | apply keep_drewN | apply keep_drew | apply keep_alloc) | exact HK.out)⟩
     rw [if_neg c11] at H; have c11b0 : decide ((wrap64 (s0_1 + 1)) < (s0_0.length : Int)) = false := decide_eq_false c11; clear c11
     by_cases c16 : a1 = 0
     · rw [if_pos c16] at H; exact absurd H (by simp)
     rw [if_neg c16] at H; have c16b0 : (a1 == 0) = false := beq_eq_false_iff_ne.mpr c16; have c16b1 : (a1 != 0) = true := bne_iff_ne.mpr c16; simp only [Option.some.injEq, Prod.mk.injEq] at H; obtain ⟨rfl, rfl⟩ := H; obtain ⟨ASz17_0, cSz17_0, HGz17, hgz17, HSz17_0⟩ := HI0.out; have hcz17_0 := cellS50_0 HGz17; have hcz17_1 := cellS50_1 HGz17; have hfz17_1 := blk_frozen HGz17 1; clear HGz17 hgz17; have p103 : 0 ≤ ((ji7) : Int) := of_decide_eq_true xa; have q103 : (ji7) < (s0_0.length : Int) := of_decide_eq_true xa; obtain ⟨ad103, e103, hx103_0⟩ := Kd.at_int HSz17_0 (ji7) p103 q103
     cases e103
     have hn103_0 : ad103.block ≠ g := Nat.ne_of_lt (Nat.lt_of_lt_of_le (by have := World.block_lt_of_cell? _ _ hx103_0; first | rwa [add_block] at this | exact this) (IsS50.ge HI0.out)); replace hx103_0 := pw_cell_below HB.out hx103_0; replace hx103_0 := (cell_far (p := ⟨g, 1, none⟩) (by first | (rw [add_block]; exact hn103_0) | (show (Addr.add _ _).block ≠ _; rw [add_block]; exact hn103_0) | exact hn103_0) (.int .i64 (wrap64 (s0_1 + 1)))).trans hx103_0; (try have hy103_0 := fun (n_ : Nat) => (show (((wc.drewN n_).setCell ⟨g, 1, none⟩ (.int .i64 (wrap64 (s0_1 + 1))))).cell? _ = some _ from hx103_0)); clear hn103_0; replace p103 := eq_true p103; replace q103 := eq_true q103; go_wp2
     repeat (go_quiet (fail); try go_wp2)
     go_ret; exact ⟨by first | rfl | (simp [errW_none, errW_some] <;> rfl) | (simp only [← hji7]; first | rfl | (simp [errW_none, errW_some] <;> rfl)) | (simp [*, errW_none, errW_some] <;> rfl), by repeat (first | (with_reducible first | exact HI0.out | apply IsS50.alloc | apply IsS50.drewN | apply IsS50.drew | apply IsS50.set_1) | exact HI0.out), by repeat (first | (with_reducible first | exact HB.out | apply below_alloc | apply pw_below_drewN | apply below_drew1 | refine below_set ?_ (IsS50.ge HI0.out)) | exact HB.out), by repeat (first | (with_reducible first | exact HK.out | apply KeepBut.set_ | apply keep_drewN | apply keep_drew | apply keep_alloc) | exact HK.out)⟩
    rw [if_neg c10] at H; have c10b0 : decide (256 < a1) = false := decide_eq_false c10; clear c10
    by_cases c18 : a1 = 0
    · rw [if_pos c18] at H; exact absurd H (by simp)
    rw [if_neg c18] at H; have c18b0 : (a1 == 0) = false := beq_eq_false_iff_ne.mpr c18; have c18b1 : (a1 != 0) = true := bne_iff_ne.mpr c18; simp only [Option.some.injEq, Prod.mk.injEq] at H; obtain ⟨rfl, rfl⟩ := H; obtain ⟨ASz19_0, cSz19_0, HGz19, hgz19, HSz19_0⟩ := HI0.out; have hcz19_0 := cellS50_0 HGz19; have hcz19_1 := cellS50_1 HGz19; have hfz19_1 := blk_frozen HGz19 1; clear HGz19 hgz19; have p103 : 0 ≤ ((ji7) : Int) := of_decide_eq_true xa; have q103 : (ji7) < (s0_0.length : Int) := of_decide_eq_true xa; obtain ⟨ad103, e103, hx103_0⟩ := Kd.at_int HSz19_0 (ji7) p103 q103
    cases e103
    have hn103_0 : ad103.block ≠ g := Nat.ne_of_lt (Nat.lt_of_lt_of_le (by have := World.block_lt_of_cell? _ _ hx103_0; first | rwa [add_block] at this | exact this) (IsS50.ge HI0.out)); replace hx103_0 := pw_cell_below HB.out hx103_0; replace hx103_0 := (cell_far (p := ⟨g, 1, none⟩) (by first | (rw [add_block]; exact hn103_0) | (show (Addr.add _ _).block ≠ _; rw [add_block]; exact hn103_0) | exact hn103_0) (.int .i64 (wrap64 (s0_1 + 1)))).trans hx103_0; (try have hy103_0 := fun (n_ : Nat) => (show (((wc.drewN n_).setCell ⟨g, 1, none⟩ (.int .i64 (wrap64 (s0_1 + 1))))).cell? _ = some _ from hx103_0)); clear hn103_0; replace p103 := eq_true p103; replace q103 := eq_true q103; go_wp2
    repeat (go_quiet (fail); try go_wp2)
    go_ret; exact ⟨by first | rfl | (simp [errW_none, errW_some] <;> rfl) | (simp only [← hji7]; first | rfl | (simp [errW_none, errW_some] <;> rfl)) | (simp [*, errW_none, errW_some] <;> rfl), by repeat (first | (with_reducible first | exact HI0.out | apply IsS50.alloc | apply IsS50.drewN | apply IsS50.drew | apply IsS50.set_1) | exact HI0.out), by repeat (first | (with_reducible first | exact HB.out | apply below_alloc | apply pw_below_drewN | apply below_drew1 | refine below_set ?_ (IsS50.ge HI0.out)) | exact HB.out), by repeat (first | (with_reducible first | exact HK.out | apply KeepBut.set_ | apply keep_drewN | apply keep_drew | apply keep_alloc) | exact HK.out)⟩
   rw [if_neg c8] at H; exact absurd H (by simp)

/-! ### minecontroldraw_Codes_One: function 20 -/
def minecontroldraw_Codes_One.f (k : Nat) (s0_0 : List Int) (s0_1 : Int) (a1 : Int) : Option (Bool × Int) := (minecontroldraw_Codes_Next.f k s0_0 s0_1 a1).bind fun bt105 => (some ((bt105.1 == (wrap64 (a1 - 1))), bt105.2))
theorem minecontroldraw_Codes_One.mono : ∀ a0 a1 a2 k, LeO (minecontroldraw_Codes_One.f k a0 a1 a2) (minecontroldraw_Codes_One.f (k + 1) a0 a1 a2) := by
 intro a0 a1 a2 k; unfold minecontroldraw_Codes_One.f
 repeat' first
   | (with_reducible exact minecontroldraw_Codes_Next.mono _ _ _ _)
   | (with_reducible exact LeO.refl _)
   | (with_reducible exact LeO.none _)
   | (with_reducible refine LeO.ite ?_ ?_)
   | (with_reducible refine LeO.bind ?_ (fun _ => ?_))
   | exact minecontroldraw_Codes_Next.mono _ _ _ _
   | exact LeO.none _
   | refine LeO.ite ?_ ?_
   | refine LeO.bind ?_ (fun _ => ?_)
set_option maxHeartbeats 8000000 in
set_option maxRecDepth 100000 in
theorem minecontroldraw_Codes_One.calls (k : Nat) (g : Nat) (s0_0 : List Int) (s0_1 : Int) (a1 : Int) (r1 : Bool) (r2 : Int) (w0 w : World) (hI : IsS50 w0 w g s0_0 s0_1) (hB : Below w0.heap.size w0 w) (h : minecontroldraw_Codes_One.f k s0_0 s0_1 a1 = some (r1, r2)) :
  Calls Try.prog 20 #[.pointer (some ⟨g, 0, none⟩), .int .i64 a1] w fun e w' => e = .returned (.bool r1) ∧ IsS50 w0 w' g s0_0 r2 ∧ Below w0.heap.size w0 w' ∧ KeepBut w w' g none := by
 have HI0 := am hI; have HK := am (KeepBut.refl w g none); have HL := am hB.size; clear hI; have HW0 := am hB.size; have HB := am hB; clear hB; have H : ((minecontroldraw_Codes_Next.f k s0_0 s0_1 a1).bind fun bt105 => (some ((bt105.1 == (wrap64 (a1 - 1))), bt105.2))) = some (r1, r2) := h; clear h; replace H := Option.bind_eq_some_iff.mp H; obtain ⟨⟨t105, t106⟩, A30, H⟩ := H; replace H : (some ((t105 == (wrap64 (a1 - 1))), t106)) = some (r1, r2) := H; have A3 := am A30; clear A30; simp only [Option.some.injEq, Prod.mk.injEq] at H; obtain ⟨rfl, rfl⟩ := H; go_enter Try.func20, Try.ntmps20; go_wp2_with (first | ((with_reducible refine gate_callee (f := 19) rfl ?_); refine goesL_ (some 7) rfl rfl Try.func19 (by kernel_rfl) rfl #[.pointer (some ⟨g, 0, none⟩), .int .i64 a1] rfl xv ?_; (with_reducible refine (minecontroldraw_Codes_Next.calls k g s0_0 s0_1 a1 t105 t106 w0 _ ?side1 ?side2 A3.out).mono ?_); (case side1 => repeat (first | (with_reducible first | exact HI0.out | apply IsS50.alloc | apply IsS50.drewN | apply IsS50.drew | apply IsS50.set_1) | exact HI0.out)); (case side2 => repeat (first | (with_reducible first | exact HB.out | apply below_alloc | apply pw_below_drewN | apply below_drew1 | refine below_set ?_ (IsS50.ge HI0.out)) | exact HB.out)); rintro e w4 ⟨rfl, hi, hb, hk⟩; refine ⟨_, rfl, ?_⟩; replace HK := am (KeepBut.trans (by repeat (first | (with_reducible first | exact HK.out | apply KeepBut.set_ | apply keep_drewN | apply keep_drew | apply keep_alloc) | exact HK.out)) hk (.inl rfl)); replace HB := am (hb); replace HI0 := am (hi); (try clear hb); (try clear hb2); (try clear hk); (try clear hi))); go_ret; exact ⟨by first | rfl | (simp [errW_none, errW_some] <;> rfl) | (simp [*, errW_none, errW_some] <;> rfl), by repeat (first | (with_reducible first | exact HI0.out | apply IsS50.alloc | apply IsS50.drewN | apply IsS50.drew | apply IsS50.set_1) | exact HI0.out), by repeat (first | (with_reducible first | exact HB.out | apply below_alloc | apply pw_below_drewN | apply below_drew1 | refine below_set ?_ (IsS50.ge HI0.out)) | exact HB.out), by repeat (first | (with_reducible first | exact HK.out | apply KeepBut.set_ | apply keep_drewN | apply keep_drew | apply keep_alloc) | exact HK.out)⟩

/-! ### minecontroldraw_Codes_Range: function 26 -/
def minecontroldraw_Codes_Range.f (k : Nat) (s0_0 : List Int) (s0_1 : Int) (a1 : Int) (a2 : Int) : Option (Int × Int) := (minecontroldraw_Codes_Next.f k s0_0 s0_1 (wrap64 ((wrap64 (a2 - a1)) + 1))).bind fun bt107 => (some (wrap64 (a1 + bt107.1), bt107.2))
theorem minecontroldraw_Codes_Range.mono : ∀ a0 a1 a2 a3 k, LeO (minecontroldraw_Codes_Range.f k a0 a1 a2 a3) (minecontroldraw_Codes_Range.f (k + 1) a0 a1 a2 a3) := by
 intro a0 a1 a2 a3 k; unfold minecontroldraw_Codes_Range.f
 repeat' first
   | (with_reducible exact minecontroldraw_Codes_Next.mono _ _ _ _)
   | (with_reducible exact LeO.refl _)
   | (with_reducible exact LeO.none _)
   | (with_reducible refine LeO.ite ?_ ?_)
   | (with_reducible refine LeO.bind ?_ (fun _ => ?_))
   | exact minecontroldraw_Codes_Next.mono _ _ _ _
   | exact LeO.none _
   | refine LeO.ite ?_ ?_
   | refine LeO.bind ?_ (fun _ => ?_)
set_option maxHeartbeats 8000000 in
set_option maxRecDepth 100000 in
theorem minecontroldraw_Codes_Range.calls (k : Nat) (g : Nat) (s0_0 : List Int) (s0_1 : Int) (a1 : Int) (a2 : Int) (r1 : Int) (r2 : Int) (w0 w : World) (hI : IsS50 w0 w g s0_0 s0_1) (hB : Below w0.heap.size w0 w) (h : minecontroldraw_Codes_Range.f k s0_0 s0_1 a1 a2 = some (r1, r2)) :
  Calls Try.prog 26 #[.pointer (some ⟨g, 0, none⟩), .int .i64 a1, .int .i64 a2] w fun e w' => e = .returned (.int .i64 r1) ∧ IsS50 w0 w' g s0_0 r2 ∧ Below w0.heap.size w0 w' ∧ KeepBut w w' g none := by
 have HI0 := am hI; have HK := am (KeepBut.refl w g none); have HL := am hB.size; clear hI; have HW0 := am hB.size; have HB := am hB; clear hB; have H : ((minecontroldraw_Codes_Next.f k s0_0 s0_1 (wrap64 ((wrap64 (a2 - a1)) + 1))).bind fun bt107 => (some (wrap64 (a1 + bt107.1), bt107.2))) = some (r1, r2) := h; clear h; replace H := Option.bind_eq_some_iff.mp H; obtain ⟨⟨t107, t108⟩, A40, H⟩ := H; replace H : (some (wrap64 (a1 + t107), t108)) = some (r1, r2) := H; have A4 := am A40; clear A40; simp only [Option.some.injEq, Prod.mk.injEq] at H; obtain ⟨rfl, rfl⟩ := H; go_enter Try.func26, Try.ntmps26; go_wp2_with (first | ((with_reducible refine gate_callee (f := 19) rfl ?_); refine goesL_ (some 13) rfl rfl Try.func19 (by kernel_rfl) rfl #[.pointer (some ⟨g, 0, none⟩), .int .i64 (wrap64 ((wrap64 (a2 - a1)) + 1))] rfl xv ?_; (with_reducible refine (minecontroldraw_Codes_Next.calls k g s0_0 s0_1 (wrap64 ((wrap64 (a2 - a1)) + 1)) t107 t108 w0 _ ?side1 ?side2 A4.out).mono ?_); (case side1 => repeat (first | (with_reducible first | exact HI0.out | apply IsS50.alloc | apply IsS50.drewN | apply IsS50.drew | apply IsS50.set_1) | exact HI0.out)); (case side2 => repeat (first | (with_reducible first | exact HB.out | apply below_alloc | apply pw_below_drewN | apply below_drew1 | refine below_set ?_ (IsS50.ge HI0.out)) | exact HB.out)); rintro e w5 ⟨rfl, hi, hb, hk⟩; refine ⟨_, rfl, ?_⟩; replace HK := am (KeepBut.trans (by repeat (first | (with_reducible first | exact HK.out | apply KeepBut.set_ | apply keep_drewN | apply keep_drew | apply keep_alloc) | exact HK.out)) hk (.inl rfl)); replace HB := am (hb); replace HI0 := am (hi); (try clear hb); (try clear hb2); (try clear hk); (try clear hi))); go_ret; exact ⟨by first | rfl | (simp [errW_none, errW_some] <;> rfl) | (simp [*, errW_none, errW_some] <;> rfl), by repeat (first | (with_reducible first | exact HI0.out | apply IsS50.alloc | apply IsS50.drewN | apply IsS50.drew | apply IsS50.set_1) | exact HI0.out), by repeat (first | (with_reducible first | exact HB.out | apply below_alloc | apply pw_below_drewN | apply below_drew1 | refine below_set ?_ (IsS50.ge HI0.out)) | exact HB.out), by repeat (first | (with_reducible first | exact HK.out | apply KeepBut.set_ | apply keep_drewN | apply keep_drew | apply keep_alloc) | exact HK.out)⟩

/-! ### minecontroldraw_Codes_Curve: function 21 -/
def minecontroldraw_Codes_Curve.l0 : Nat → List (S42) → Int → List Int → Int → Option ((List (S42)) × Int)
 | 0, _, _, _, _ => none
 | k + 1, x3, x4, x1000, x1001 => if x4 > 0 then (if 0 ≤ (wrap64 ((x3.length : Int) - 1)) then (if (wrap64 ((x3.length : Int) - 1)) < (x3.length : Int) then ((minecontroldraw_Codes_Range.f k x1000 x1001 1 40).bind fun bt120 => ((minecontroldraw_Codes_Next.f k x1000 bt120.2 900).bind fun bt122 => (if x3.length < 8796093022208 then (minecontroldraw_Codes_Curve.l0 k (x3 ++ [(⟨wrap64 (((rd_T42 x3 (wrap64 ((x3.length : Int) - 1))).f0) + bt120.1), mx 0 (wrap64 (((rd_T42 x3 (wrap64 ((x3.length : Int) - 1))).f1) - bt122.1))⟩ : S42)]) (wrap64 (x4 - 1)) x1000 bt122.2) else (none)))) else (none)) else (none)) else (some (x3, x1001))
def minecontroldraw_Codes_Curve.f (k : Nat) (s0_0 : List Int) (s0_1 : Int) : Option ((List (S42)) × Int) := (minecontroldraw_Codes_Range.f k s0_0 s0_1 (-20) 10).bind fun bt109 => ((minecontroldraw_Codes_Range.f k s0_0 bt109.2 500 3000).bind fun bt111 => ((minecontroldraw_Codes_Next.f k s0_0 bt111.2 4).bind fun bt116 => (minecontroldraw_Codes_Curve.l0 k (([(⟨bt109.1, bt111.1⟩ : S42)] : List (S42))) bt116.1 s0_0 bt116.2)))
theorem minecontroldraw_Codes_Curve.mono_l : ∀ k, (∀ y0 y1 y2 y3, LeO (minecontroldraw_Codes_Curve.l0 k y0 y1 y2 y3) (minecontroldraw_Codes_Curve.l0 (k + 1) y0 y1 y2 y3))
 | 0 => fun _ _ _ _ r h => by simp [minecontroldraw_Codes_Curve.l0] at h
 | k + 1 => by
  have ih0 := minecontroldraw_Codes_Curve.mono_l k
  intro y0 y1 y2 y3
  unfold minecontroldraw_Codes_Curve.l0
  repeat' first
  | (with_reducible exact ih0 _ _ _ _)
  | (with_reducible exact minecontroldraw_Codes_Next.mono _ _ _ _)
  | (with_reducible exact minecontroldraw_Codes_Range.mono _ _ _ _ _)
  | (with_reducible exact LeO.refl _)
  | (with_reducible exact LeO.none _)
  | (with_reducible refine LeO.ite ?_ ?_)
  | (with_reducible refine LeO.bind ?_ (fun _ => ?_))
  | exact ih0 _ _ _ _
  | exact minecontroldraw_Codes_Next.mono _ _ _ _
  | exact minecontroldraw_Codes_Range.mono _ _ _ _ _
  | exact LeO.none _
  | refine LeO.ite ?_ ?_
  | refine LeO.bind ?_ (fun _ => ?_)
theorem minecontroldraw_Codes_Curve.mono : ∀ a0 a1 k, LeO (minecontroldraw_Codes_Curve.f k a0 a1) (minecontroldraw_Codes_Curve.f (k + 1) a0 a1) := by
 intro a0 a1 k; have ih0 := minecontroldraw_Codes_Curve.mono_l k; unfold minecontroldraw_Codes_Curve.f
 repeat' first
   | (with_reducible exact ih0 _ _ _ _)
   | (with_reducible exact minecontroldraw_Codes_Next.mono _ _ _ _)
   | (with_reducible exact minecontroldraw_Codes_Range.mono _ _ _ _ _)
   | (with_reducible exact LeO.refl _)
   | (with_reducible exact LeO.none _)
   | (with_reducible refine LeO.ite ?_ ?_)
   | (with_reducible refine LeO.bind ?_ (fun _ => ?_))
   | exact ih0 _ _ _ _
   | exact minecontroldraw_Codes_Next.mono _ _ _ _
   | exact minecontroldraw_Codes_Range.mono _ _ _ _ _
   | exact LeO.none _
   | refine LeO.ite ?_ ?_
   | refine LeO.bind ?_ (fun _ => ?_)
def minecontroldraw_Codes_Curve.T6 : Bool × List (List Nat × List Nat) := (true, [([], []), ([], []), ([1], [1]), ([], []), ([3], [3]), ([2, 4], [2, 4]), ([], []), ([6], [6]), ([], []), ([8, 4], [8]), ([7, 9], [7, 9]), ([10], [10]), ([5, 11], [5, 11]), ([12], [12]), ([0, 13, 9], [0, 13]), ([14, 14, 0, 1, 2, 3, 4, 5, 6, 7, 8, 9, 10, 11, 12, 13, 14], [0, 14])])
def minecontroldraw_Codes_Curve.B6 : List Nat := [0, 0, 2, 0, 8, 30, 0, 64, 0, 280, 984, 2008, 4094, 8190, 16383, 32767]
theorem minecontroldraw_Codes_Curve.tab6 : rtab .any (opsOf Try.f21 6) = minecontroldraw_Codes_Curve.T6 := by kernel_rfl
theorem minecontroldraw_Codes_Curve.bits6 : waitsOk minecontroldraw_Codes_Curve.T6.2 minecontroldraw_Codes_Curve.B6 = true := by kernel_rfl
set_option maxHeartbeats 8000000 in
set_option maxRecDepth 100000 in
theorem minecontroldraw_Codes_Curve.calls (k : Nat) (g : Nat) (s0_0 : List Int) (s0_1 : Int) (r1 : List (S42)) (r2 : Int) (w0 w : World) (hI : IsS50 w0 w g s0_0 s0_1) (hB : Below w0.heap.size w0 w) (h : minecontroldraw_Codes_Curve.f k s0_0 s0_1 = some (r1, r2)) :
  Calls Try.prog 21 #[.pointer (some ⟨g, 0, none⟩)] w fun e w' => ∃ v0_ : Value, e = .returned (v0_) ∧ Kd.R k42 42 w' w.heap.size (fun _ => True) v0_ r1 ∧ IsS50 w0 w' g s0_0 r2 ∧ Below w0.heap.size w0 w' ∧ KeepBut w w' g none := by
 have hu42 := Try.underlying42; have HI0 := am hI; have HK := am (KeepBut.refl w g none); have HL := am hB.size; clear hI; have HW0 := am hB.size; have HB := am hB; clear hB; have H : ((minecontroldraw_Codes_Range.f k s0_0 s0_1 (-20) 10).bind fun bt109 => ((minecontroldraw_Codes_Range.f k s0_0 bt109.2 500 3000).bind fun bt111 => ((minecontroldraw_Codes_Next.f k s0_0 bt111.2 4).bind fun bt116 => (minecontroldraw_Codes_Curve.l0 k (([(⟨bt109.1, bt111.1⟩ : S42)] : List (S42))) bt116.1 s0_0 bt116.2)))) = some (r1, r2) := h; clear h; replace H := Option.bind_eq_some_iff.mp H; obtain ⟨⟨t109, t110⟩, A20, H⟩ := H; replace H : ((minecontroldraw_Codes_Range.f k s0_0 t110 500 3000).bind fun bt111 => ((minecontroldraw_Codes_Next.f k s0_0 bt111.2 4).bind fun bt116 => (minecontroldraw_Codes_Curve.l0 k (([(⟨t109, bt111.1⟩ : S42)] : List (S42))) bt116.1 s0_0 bt116.2))) = some (r1, r2) := H; have A2 := am A20; clear A20; replace H := Option.bind_eq_some_iff.mp H; obtain ⟨⟨t111, t112⟩, A30, H⟩ := H; replace H : ((minecontroldraw_Codes_Next.f k s0_0 t112 4).bind fun bt116 => (minecontroldraw_Codes_Curve.l0 k (([(⟨t109, t111⟩ : S42)] : List (S42))) bt116.1 s0_0 bt116.2)) = some (r1, r2) := H; have A3 := am A30; clear A30; obtain ⟨y113, hy113⟩ : ∃ y_ : List (S42), y_ = (([(⟨t109, t111⟩ : S42)] : List (S42))) := ⟨_, rfl⟩; (replace H : ((minecontroldraw_Codes_Next.f k s0_0 t112 4).bind fun bt116 => (minecontroldraw_Codes_Curve.l0 k y113 bt116.1 s0_0 bt116.2)) = some (r1, r2) := by first | (rw [hy113]; with_reducible exact H) | (have H2_ := (Option.bind_some _ _).symm.trans H; rw [hy113]; with_reducible exact H2_) | (have H2_ := (Option.bind_some _ _).symm.trans H; with_reducible exact H2_) | with_reducible exact H | (rw [hy113]; exact H) | exact H); have Ny113 := am hy113; clear hy113; replace H := Option.bind_eq_some_iff.mp H; obtain ⟨⟨t116, t117⟩, A40, H⟩ := H; replace H : (minecontroldraw_Codes_Curve.l0 k y113 t116 s0_0 t117) = some (r1, r2) := H; have A4 := am A40; clear A40; have H' := am H; clear H; go_enter Try.func21, Try.ntmps21; go_wp2_with (first | ((with_reducible refine gate_callee (f := 26) rfl ?_); refine goesL_ (some 7) rfl rfl Try.func26 (by kernel_rfl) rfl #[.pointer (some ⟨g, 0, none⟩), .int .i64 (-20), .int .i64 10] rfl xv ?_; (with_reducible refine (minecontroldraw_Codes_Range.calls k g s0_0 s0_1 (-20) 10 t109 t110 w0 _ ?side1 ?side2 A2.out).mono ?_); (case side1 => repeat (first | (with_reducible first | exact HI0.out | apply IsS50.alloc | apply IsS50.drewN | apply IsS50.drew | apply IsS50.set_1) | exact HI0.out)); (case side2 => repeat (first | (with_reducible first | exact HB.out | apply below_alloc | apply pw_below_drewN | apply below_drew1 | refine below_set ?_ (IsS50.ge HI0.out)) | exact HB.out)); rintro e w5 ⟨rfl, hi, hb, hk⟩; refine ⟨_, rfl, ?_⟩; replace HK := am (KeepBut.trans (by repeat (first | (with_reducible first | exact HK.out | apply KeepBut.set_ | apply keep_drewN | apply keep_drew | apply keep_alloc) | exact HK.out)) hk (.inl rfl)); replace HB := am (hb); replace HI0 := am (hi); (try clear hb); (try clear hb2); (try clear hk); (try clear hi)) | ((with_reducible refine gate_callee (f := 26) rfl ?_); refine goesL_ (some 9) rfl rfl Try.func26 (by kernel_rfl) rfl #[.pointer (some ⟨g, 0, none⟩), .int .i64 500, .int .i64 3000] rfl xv ?_; (with_reducible refine (minecontroldraw_Codes_Range.calls k g s0_0 t110 500 3000 t111 t112 w0 _ ?side1 ?side2 A3.out).mono ?_); (case side1 => repeat (first | (with_reducible first | exact HI0.out | apply IsS50.alloc | apply IsS50.drewN | apply IsS50.drew | apply IsS50.set_1) | exact HI0.out)); (case side2 => repeat (first | (with_reducible first | exact HB.out | apply below_alloc | apply pw_below_drewN | apply below_drew1 | refine below_set ?_ (IsS50.ge HI0.out)) | exact HB.out)); rintro e w6 ⟨rfl, hi, hb, hk⟩; refine ⟨_, rfl, ?_⟩; replace HK := am (KeepBut.trans (by repeat (first | (with_reducible first | exact HK.out | apply KeepBut.set_ | apply keep_drewN | apply keep_drew | apply keep_alloc) | exact HK.out)) hk (.inl rfl)); replace HB := am (hb); replace HI0 := am (hi); (try clear hb); (try clear hb2); (try clear hk); (try clear hi)) | ((with_reducible refine gate_dst (N := 11) rfl ?_); refine Kd.R_lit k42 _ 42 ?hg (N := 11) ?hd (xs := ([(⟨t109, t111⟩ : S42)] : List (S42))) (inner := [.int .i64 t109, .int .i64 t111]) (ok := fun _ => True) (okp := fun _ => True) ?hr ?hp (fun _ hk => hk) trivial (Below.refl _ _) (Nat.le_refl _) (by simp) ?_; (case hd => rfl); (case hg => rfl); (case hr => first | (go_simp; done) | (go_simp; rfl)); (case hp => exact (Reps.c2 (show Kd.M k42 _ _ _ (⟨t109, t111⟩ : S42) [.int .i64 t109, .int .i64 t111] from (k42_mkM _ _ _ (⟨t109, t111⟩ : S42) )) (Reps.none _ _))); intro v114 w7 ho8 hb hg_ hnew_; clear hg_ hnew_; (first | rw [← Ny113.out] at ho8 | (simp only [Int.reduceToNat] at ho8; rw [← Ny113.out] at ho8)); replace HO115 := am (Kd.R_lower ho8 (keep_size (w := w) (g := g) (row := none) (by repeat (first | (with_reducible first | exact HK.out | apply KeepBut.set_ | apply keep_drewN | apply keep_drew | apply keep_alloc) | exact HK.out)))); replace HK := am (KeepBut.trans (by repeat (first | (with_reducible first | exact HK.out | apply KeepBut.set_ | apply keep_drewN | apply keep_drew | apply keep_alloc) | exact HK.out)) (KeepBut.of_below hb g none) (.inl rfl)); replace HB := am (below_step (by repeat (first | (with_reducible first | exact HB.out | apply below_alloc | apply pw_below_drewN | apply below_drew1 | refine below_set ?_ (IsS50.ge HI0.out)) | exact HB.out)) hb); replace HI0 := am (IsS50.below (by repeat (first | (with_reducible first | exact HI0.out | apply IsS50.alloc | apply IsS50.drewN | apply IsS50.drew | apply IsS50.set_1) | exact HI0.out)) hb); clear hb ho8) | ((with_reducible refine gate_callee (f := 19) rfl ?_); refine goesL_ (some 13) rfl rfl Try.func19 (by kernel_rfl) rfl #[.pointer (some ⟨g, 0, none⟩), .int .i64 4] rfl xv ?_; (with_reducible refine (minecontroldraw_Codes_Next.calls k g s0_0 t112 4 t116 t117 w0 _ ?side1 ?side2 A4.out).mono ?_); (case side1 => repeat (first | (with_reducible first | exact HI0.out | apply IsS50.alloc | apply IsS50.drewN | apply IsS50.drew | apply IsS50.set_1) | exact HI0.out)); (case side2 => repeat (first | (with_reducible first | exact HB.out | apply below_alloc | apply pw_below_drewN | apply below_drew1 | refine below_set ?_ (IsS50.ge HI0.out)) | exact HB.out)); rintro e w9 ⟨rfl, hi, hb, hk⟩; refine ⟨_, rfl, ?_⟩; replace HO115 := am (Kd.R_mono (Kd.R_keep (IsS50.apart (show IsS50 w0 _ g s0_0 t112 from by repeat (first | (with_reducible first | exact HI0.out | apply IsS50.alloc | apply IsS50.drewN | apply IsS50.drew | apply IsS50.set_1) | exact HI0.out)) (xk HO115) (by decide)) hk (fun _ h => h.2)) (fun _ h => h.1)); replace HK := am (KeepBut.trans (by repeat (first | (with_reducible first | exact HK.out | apply KeepBut.set_ | apply keep_drewN | apply keep_drew | apply keep_alloc) | exact HK.out)) hk (.inl rfl)); replace HB := am (hb); replace HI0 := am (hi); (try clear hb); (try clear hb2); (try clear hk); (try clear hi)))
 go_loopg [3, 4] k (fun kq v3 v4 w' => ∃ (x3_1 : List (S42)) (x4_1 : Int) (x1001_1 : Int), v4 = .int .i64 x4_1 ∧ Aside0 (minecontroldraw_Codes_Curve.l0 kq x3_1 x4_1 s0_0 x1001_1 = some (r1, r2)) ∧ Aside0 (kq ≤ k) ∧ Aside0 (Kd.R k42 42 w' w.heap.size (fun _ => True) v3 x3_1) ∧ Aside0 (IsS50 w0 w' g s0_0 x1001_1) ∧ Aside0 (KeepBut w w' g none) ∧ Aside0 (Below w0.heap.size w0 w'))
 case atStart => exact ⟨(y113), (t116), (t117), xr, H', ⟨Nat.le_refl _⟩, ⟨xk HO115⟩, ⟨by repeat (first | (with_reducible first | exact HI0.out | apply IsS50.alloc | apply IsS50.drewN | apply IsS50.drew | apply IsS50.set_1) | exact HI0.out)⟩, ⟨by repeat (first | (with_reducible first | exact HK.out | apply KeepBut.set_ | apply keep_drewN | apply keep_drew | apply keep_alloc) | exact HK.out)⟩, ⟨by repeat (first | (with_reducible first | exact HB.out | apply below_alloc | apply pw_below_drewN | apply below_drew1 | refine below_set ?_ (IsS50.ge HI0.out)) | exact HB.out)⟩⟩
 case round =>
  clear H'
  try clear c1
  try clear c2
  try clear p2
  obtain ⟨x3_1, x4_1, x1001_1, rfl, HA, HK1, HO_3, HI0, HK, HB⟩ := hrel
  cases gk with
  | zero => exact absurd HA.out (by simp [minecontroldraw_Codes_Curve.l0])
  | succ k1 =>
   have H := HA.out; clear HA; simp only [minecontroldraw_Codes_Curve.l0] at H
   by_cases c10 : x4_1 > 0
   ·
    rw [if_pos c10] at H
    have c10b0 : decide (0 < x4_1) = true := decide_eq_true c10; clear c10; obtain ⟨ji11, hji11⟩ : ∃ j_ : Int, (wrap64 ((x3_1.length : Int) - 1)) = j_ := ⟨_, rfl⟩; (replace H : (if 0 ≤ (ji11) then (if (ji11) < (x3_1.length : Int) then ((minecontroldraw_Codes_Range.f k1 s0_0 x1001_1 1 40).bind fun bt120 => ((minecontroldraw_Codes_Next.f k1 s0_0 bt120.2 900).bind fun bt122 => (if x3_1.length < 8796093022208 then (minecontroldraw_Codes_Curve.l0 k1 (x3_1 ++ [(⟨wrap64 (((rd_T42 x3_1 (ji11)).f0) + bt120.1), mx 0 (wrap64 (((rd_T42 x3_1 (ji11)).f1) - bt122.1))⟩ : S42)]) (wrap64 (x4_1 - 1)) s0_0 bt122.2) else (none)))) else (none)) else (none)) = some (r1, r2) := by first | (rw [hji11] at H; exact H) | (simp only [hji11] at H ⊢; exact H)); have hji11w : (IntKind.i64.wrap ((x3_1.length : Int) - 1)) = ji11 := (i64_w _).trans hji11
    by_cases c12 : 0 ≤ (ji11)
    rotate_left
    · rw [if_neg c12] at H; exact absurd H (by simp)
    rw [if_pos c12] at H; have c12b0 : decide (0 ≤ (ji11)) = true := decide_eq_true c12; clear c12
    by_cases c13 : (ji11) < (x3_1.length : Int)
    rotate_left
    · rw [if_neg c13] at H; exact absurd H (by simp)
    rw [if_pos c13] at H; have c13b0 : decide ((ji11) < (x3_1.length : Int)) = true := decide_eq_true c13; clear c13; replace H := Option.bind_eq_some_iff.mp H; obtain ⟨⟨t120, t121⟩, A140, H⟩ := H; replace H : ((minecontroldraw_Codes_Next.f k1 s0_0 t121 900).bind fun bt122 => (if x3_1.length < 8796093022208 then (minecontroldraw_Codes_Curve.l0 k1 (x3_1 ++ [(⟨wrap64 (((rd_T42 x3_1 (ji11)).f0) + t120), mx 0 (wrap64 (((rd_T42 x3_1 (ji11)).f1) - bt122.1))⟩ : S42)]) (wrap64 (x4_1 - 1)) s0_0 bt122.2) else (none))) = some (r1, r2) := H; have A14 := am A140; clear A140; replace H := Option.bind_eq_some_iff.mp H; obtain ⟨⟨t122, t123⟩, A150, H⟩ := H; replace H : (if x3_1.length < 8796093022208 then (minecontroldraw_Codes_Curve.l0 k1 (x3_1 ++ [(⟨wrap64 (((rd_T42 x3_1 (ji11)).f0) + t120), mx 0 (wrap64 (((rd_T42 x3_1 (ji11)).f1) - t122))⟩ : S42)]) (wrap64 (x4_1 - 1)) s0_0 t123) else (none)) = some (r1, r2) := H; have A15 := am A150; clear A150; obtain ⟨ji16, hji16⟩ : ∃ j_ : Int, (mx 0 (wrap64 (((rd_T42 x3_1 (ji11)).f1) - t122))) = j_ := ⟨_, rfl⟩; (replace H : (if x3_1.length < 8796093022208 then (minecontroldraw_Codes_Curve.l0 k1 (x3_1 ++ [(⟨wrap64 (((rd_T42 x3_1 (ji11)).f0) + t120), ji16⟩ : S42)]) (wrap64 (x4_1 - 1)) s0_0 t123) else (none)) = some (r1, r2) := by first | (rw [hji16] at H; exact H) | (simp only [hji16] at H ⊢; exact H)); (try rw [hji16] at A14); (try rw [hji16] at A15); have hji16_ : (if 0 < (wrap64 (((rd_T42 x3_1 (ji11)).f1) - t122)) then (wrap64 (((rd_T42 x3_1 (ji11)).f1) - t122)) else 0) = ji16 := hji16
    by_cases c17 : x3_1.length < 8796093022208
    rotate_left
    · rw [if_neg c17] at H; exact absurd H (by simp)
    rw [if_pos c17] at H; have LMc17 := am c17; clear c17; obtain ⟨y124, hy124⟩ : ∃ y_ : List (S42), y_ = (x3_1 ++ [(⟨wrap64 (((rd_T42 x3_1 (ji11)).f0) + t120), ji16⟩ : S42)]) := ⟨_, rfl⟩; (replace H : (minecontroldraw_Codes_Curve.l0 k1 y124 (wrap64 (x4_1 - 1)) s0_0 t123) = some (r1, r2) := by first | (rw [hy124]; with_reducible exact H) | (have H2_ := (Option.bind_some _ _).symm.trans H; rw [hy124]; with_reducible exact H2_) | (have H2_ := (Option.bind_some _ _).symm.trans H; with_reducible exact H2_) | with_reducible exact H | (rw [hy124]; exact H) | exact H); have Ny124 := am hy124; clear hy124; have H' := am H; clear H; obtain ⟨Ao18, co18, eo18⟩ := Kd.R_slice HO_3.out; subst eo18; have p118 : 0 ≤ ((ji11) : Int) := of_decide_eq_true xa; have q118 : (ji11) < (x3_1.length : Int) := of_decide_eq_true xa; obtain ⟨ad118, e118, hx118_0, hx118_1⟩ := at_T42 (Kd.R_reads' HO_3.out).2.2 (ji11) p118 q118
    cases e118
    replace p118 := eq_true p118; replace q118 := eq_true q118
    try go_wp2_with (first | ((with_reducible refine gate_dst (N := 5) rfl ?_); refine xbox 5 (cs := #[.int .i64 0, .int .i64 0]) (t := 42) ?_; intro gb119 hg w19 hbox hb; replace HO_3 := am (Kd.R_below (Kd.R_elderB (xk HO_3) gb119 (Nat.le_of_eq hg.symm)) hb); replace HB := am (below_step (by repeat (first | (with_reducible first | exact HB.out | apply below_alloc | apply pw_below_drewN | apply below_drew1 | refine below_set ?_ (IsS50.ge HI0.out)) | exact HB.out)) hb); replace BK119 := am hbox; replace GW119 := am ((by rw [hg]; exact (keep_size (w := w) (g := g) (row := none) (by repeat (first | (with_reducible first | exact HK.out | apply KeepBut.set_ | apply keep_drewN | apply keep_drew | apply keep_alloc) | exact HK.out))) : w.heap.size ≤ gb119)); replace GE119 := am ((Nat.le_trans HW0.out (by rw [hg]; exact (keep_size (w := w) (g := g) (row := none) (by repeat (first | (with_reducible first | exact HK.out | apply KeepBut.set_ | apply keep_drewN | apply keep_drew | apply keep_alloc) | exact HK.out))) : w.heap.size ≤ gb119) : w0.heap.size ≤ gb119)); replace HK := am (KeepBut.trans (by repeat (first | (with_reducible first | exact HK.out | apply KeepBut.set_ | apply keep_drewN | apply keep_drew | apply keep_alloc) | exact HK.out)) (KeepBut.of_below hb g none) (.inl rfl)); replace NB0_119 := am ((by rw [hg]; exact Nat.ne_of_lt (IsS50.lt (show IsS50 w0 _ g s0_0 x1001_1 from by repeat (first | (with_reducible first | exact HI0.out | apply IsS50.alloc | apply IsS50.drewN | apply IsS50.drew | apply IsS50.set_1) | exact HI0.out))) : g ≠ gb119)); replace NB119_0 := am ((by rw [hg]; exact Nat.ne_of_gt (IsS50.lt (show IsS50 w0 _ g s0_0 x1001_1 from by repeat (first | (with_reducible first | exact HI0.out | apply IsS50.alloc | apply IsS50.drewN | apply IsS50.drew | apply IsS50.set_1) | exact HI0.out))) : gb119 ≠ g)); replace HI0 := am (IsS50.below (by repeat (first | (with_reducible first | exact HI0.out | apply IsS50.alloc | apply IsS50.drewN | apply IsS50.drew | apply IsS50.set_1) | exact HI0.out)) hb); clear hb hbox hg; have hnb20 := NB119_0.out; have hnc20 := NB0_119.out; have hcz21_0 : w19.cell? ⟨gb119, 0, none⟩ = some (.int .i64 0) := xz BK119 0; have hcz21_1 : w19.cell? ⟨gb119, 1, none⟩ = some (.int .i64 0) := xz BK119 1; have hfz21_0 := blk_frozen BK119.out 0; have hfz21_1 := blk_frozen BK119.out 1))
    replace HO_3 : Aside0 (Kd.R k42 42 ((w19.setCell ⟨gb119, 0, none⟩ (.int .i64 ((rd_T42 x3_1 (ji11)).f0))).setCell ⟨gb119, 1, none⟩ (.int .i64 ((rd_T42 x3_1 (ji11)).f1))) w.heap.size (fun k_ => k_ ≠ gb119) (.slice (some ad118) x3_1.length co18) x3_1) := ⟨by (with_reducible repeat (first | apply Kd.R_alloc | apply Kd.R_drewN | apply Kd.R_drew)); exact Kd.R_mono (Kd.R_far (p := ⟨gb119, 1, none⟩) (Kd.R_far (p := ⟨gb119, 0, none⟩) (Kd.R_mono HO_3.out (fun k_ hk => (⟨hk, hk.2⟩ : _ ∧ k_ ≠ gb119))) (fun _ hk => hk.2) (.int .i64 ((rd_T42 x3_1 (ji11)).f0))) (fun _ hk => hk.2) (.int .i64 ((rd_T42 x3_1 (ji11)).f1))) (fun _ hk => hk.1.2)⟩; replace BK119 : Aside0 (((w19.setCell ⟨gb119, 0, none⟩ (.int .i64 ((rd_T42 x3_1 (ji11)).f0))).setCell ⟨gb119, 1, none⟩ (.int .i64 ((rd_T42 x3_1 (ji11)).f1))).heap[gb119]? = some (.cells #[.int .i64 ((rd_T42 x3_1 (ji11)).f0), .int .i64 ((rd_T42 x3_1 (ji11)).f1)] 42 (0, 0))) := ⟨by (with_reducible repeat (first | refine blk_drewN ?_ _ | refine blk_drew ?_ | refine blk_alloc ?_ _)); refine blk_put (cs := #[.int .i64 ((rd_T42 x3_1 (ji11)).f0), .int .i64 0]) ?_ 1 _ rfl; (with_reducible repeat (first | refine blk_drewN ?_ _ | refine blk_drew ?_ | refine blk_alloc ?_ _)); refine blk_put (cs := #[.int .i64 0, .int .i64 0]) ?_ 0 _ rfl; (with_reducible repeat (first | refine blk_drewN ?_ _ | refine blk_drew ?_ | refine blk_alloc ?_ _)); exact BK119.out⟩; replace HK : Aside0 (KeepBut w ((w19.setCell ⟨gb119, 0, none⟩ (.int .i64 ((rd_T42 x3_1 (ji11)).f0))).setCell ⟨gb119, 1, none⟩ (.int .i64 ((rd_T42 x3_1 (ji11)).f1))) g none) := ⟨by repeat (first | (with_reducible first | exact HK.out | apply KeepBut.set_ | apply keep_drewN | apply keep_drew | apply keep_alloc | refine keep_far ?_ GW119.out _) | exact HK.out)⟩; replace HB : Aside0 (Below w0.heap.size w0 ((w19.setCell ⟨gb119, 0, none⟩ (.int .i64 ((rd_T42 x3_1 (ji11)).f0))).setCell ⟨gb119, 1, none⟩ (.int .i64 ((rd_T42 x3_1 (ji11)).f1)))) := ⟨by repeat (first | (with_reducible first | exact HB.out | apply below_alloc | apply pw_below_drewN | apply below_drew1 | refine below_set ?_ (IsS50.ge HI0.out) | refine below_set ?_ GE119.out) | exact HB.out)⟩; replace HI0 : Aside0 (IsS50 w0 ((w19.setCell ⟨gb119, 0, none⟩ (.int .i64 ((rd_T42 x3_1 (ji11)).f0))).setCell ⟨gb119, 1, none⟩ (.int .i64 ((rd_T42 x3_1 (ji11)).f1))) g s0_0 x1001_1) := ⟨by repeat (first | (with_reducible first | exact HI0.out | apply IsS50.alloc | apply IsS50.drewN | apply IsS50.drew | apply IsS50.set_1 | refine IsS50.far ?_ NB0_119.out _) | exact HI0.out)⟩; generalize ((w19.setCell ⟨gb119, 0, none⟩ (.int .i64 ((rd_T42 x3_1 (ji11)).f0))).setCell ⟨gb119, 1, none⟩ (.int .i64 ((rd_T42 x3_1 (ji11)).f1))) = w22 at HO_3 BK119 HI0 HK HB ⊢; replace HO_3 := am (Kd.R_drew HO_3.out); replace BK119 := am (blk_drew BK119.out); replace HI0 := am (IsS50.drew HI0.out); replace HK := am (keep_drew HK.out); replace HB := am (below_drew1 HB.out); refine start_ (n := 16) (S := fun w' => w'.cell? ⟨gb119, 0, none⟩ = some (.int .i64 ((rd_T42 x3_1 (ji11)).f0)) ∧ w'.cell? ⟨gb119, 1, none⟩ = some (.int .i64 ((rd_T42 x3_1 (ji11)).f1))) (ds := []) #[false, false, false, false, false, false, false, false, false, false, false, false, false, false, false, false] (by kernel_rfl) rfl rfl ⟨xz BK119 0, xz BK119 1⟩ (fun hHeld => ?_); refine with_tabW minecontroldraw_Codes_Curve.tab6 minecontroldraw_Codes_Curve.bits6 (fun HT_ HW_ => ?_)
    generalize w22.drew = w23 at HO_3 BK119 HI0 HK HB hHeld ⊢; refine xp 0 (some 24) #[true, false, false, false, false, false, false, false, false, false, false, false, false, false, false, false] HT_ ?_; refine xp 1 (some 25) #[true, true, false, false, false, false, false, false, false, false, false, false, false, false, false, false] HT_ ?_; refine xp 3 (some 27) #[true, true, false, true, false, false, false, false, false, false, false, false, false, false, false, false] HT_ ?_; refine xp 6 (some 30) #[true, true, false, true, false, false, true, false, false, false, false, false, false, false, false, false] HT_ ?_; refine xp 8 (some 32) #[true, true, false, true, false, false, true, false, true, false, false, false, false, false, false, false] HT_ ?_; refine take_ (i := 2) (N := some 26) (v := ?_) (a' := ?_) #[true, true, true, true, false, false, true, false, true, false, false, false, false, false, false, false] rfl rfl (take_ofW HT_.out HW_.out (by kernel_rfl)) (fun _ _ _ h => h) (Or.inl ⟨by rfl, ?_⟩) hHeld ?_ ?_; rotate_left
    ·
     rintro w' ⟨s0, s1⟩
     go_simp; (with_reducible rfl)
    rotate_left
    ·
     simp only [Act.put, List.setIfInBounds_toArray, List.set_cons_zero, List.set_cons_succ, i64_w, i32_w]
     rfl
    refine take_ (i := 7) (N := some 31) (v := ?_) (a' := ?_) #[true, true, true, true, false, false, true, true, true, false, false, false, false, false, false, false] rfl rfl (take_ofW HT_.out HW_.out (by kernel_rfl)) (fun _ _ _ h => h) (Or.inl ⟨by rfl, ?_⟩) hHeld ?_ ?_; rotate_left
    ·
     rintro w' ⟨s0, s1⟩
     go_simp; (with_reducible rfl)
    rotate_left
    ·
     simp only [Act.put, List.setIfInBounds_toArray, List.set_cons_zero, List.set_cons_succ, i64_w, i32_w]
     rfl
    refine one_ (i := 4) (N := some 28) #[true, true, true, true, true, false, true, true, true, false, false, false, false, false, false, false] rfl rfl (one_of HT_.out (by kernel_rfl)) (by decide) (fun K hK => ?_); refine goes_ Try.func26 (by kernel_rfl) rfl #[.pointer (some ⟨g, 0, none⟩), .int .i64 1, .int .i64 40] (by rfl) rfl rfl xv ?_; (with_reducible refine (minecontroldraw_Codes_Range.calls k1 g s0_0 x1001_1 1 40 t120 t121 w0 _ ?side1 ?side2 A14.out).mono ?_); (case side1 => repeat (first | (with_reducible first | exact HI0.out | apply IsS50.alloc | apply IsS50.drewN | apply IsS50.drew | apply IsS50.set_1 | refine IsS50.far ?_ NB0_119.out _) | exact HI0.out)); (case side2 => repeat (first | (with_reducible first | exact HB.out | apply below_alloc | apply pw_below_drewN | apply below_drew1 | refine below_set ?_ (IsS50.ge HI0.out) | refine below_set ?_ GE119.out) | exact HB.out)); rintro e w24 ⟨rfl, hi, hb, hk⟩; refine ⟨_, rfl, ?_⟩; replace HO_3 := am (Kd.R_mono (Kd.R_keep (IsS50.apart (show IsS50 w0 _ g s0_0 x1001_1 from by repeat (first | (with_reducible first | exact HI0.out | apply IsS50.alloc | apply IsS50.drewN | apply IsS50.drew | apply IsS50.set_1 | refine IsS50.far ?_ NB0_119.out _) | exact HI0.out)) (xk HO_3) (by decide)) hk (fun _ h => h.2)) (fun _ h => h.1)); replace BK119 := am (KeepBut.blk hk (g' := gb119) (o := .cells #[.int .i64 ((rd_T42 x3_1 (ji11)).f0), .int .i64 ((rd_T42 x3_1 (ji11)).f1)] 42 (0, 0)) (xb BK119) NB119_0.out (by simp)); replace HK := am (KeepBut.trans (by repeat (first | (with_reducible first | exact HK.out | apply KeepBut.set_ | apply keep_drewN | apply keep_drew | apply keep_alloc | refine keep_far ?_ GW119.out _) | exact HK.out)) hk (.inl rfl)); replace HB := am (hb); replace HI0 := am (hi); (try clear hb); (try clear hb2); (try clear hk); (try clear hi); refine hK.out _ _ ⟨xz BK119 0, xz BK119 1⟩ (fun hHeld => ?_); clear hK K; refine yo ?_; refine xp 5 (some 29) #[true, true, true, true, true, true, true, true, true, false, false, false, false, false, false, false] HT_ ?_; refine one_ (i := 9) (N := some 33) #[true, true, true, true, true, true, true, true, true, true, false, false, false, false, false, false] rfl rfl (one_of HT_.out (by kernel_rfl)) (by decide) (fun K hK => ?_); refine goes_ Try.func19 (by kernel_rfl) rfl #[.pointer (some ⟨g, 0, none⟩), .int .i64 900] (by rfl) rfl rfl xv ?_; (with_reducible refine (minecontroldraw_Codes_Next.calls k1 g s0_0 t121 900 t122 t123 w0 _ ?side1 ?side2 A15.out).mono ?_); (case side1 => repeat (first | (with_reducible first | exact HI0.out | apply IsS50.alloc | apply IsS50.drewN | apply IsS50.drew | apply IsS50.set_1 | refine IsS50.far ?_ NB0_119.out _) | exact HI0.out)); (case side2 => repeat (first | (with_reducible first | exact HB.out | apply below_alloc | apply pw_below_drewN | apply below_drew1 | refine below_set ?_ (IsS50.ge HI0.out) | refine below_set ?_ GE119.out) | exact HB.out)); rintro e w25 ⟨rfl, hi, hb, hk⟩; refine ⟨_, rfl, ?_⟩; replace HO_3 := am (Kd.R_mono (Kd.R_keep (IsS50.apart (show IsS50 w0 _ g s0_0 t121 from by repeat (first | (with_reducible first | exact HI0.out | apply IsS50.alloc | apply IsS50.drewN | apply IsS50.drew | apply IsS50.set_1 | refine IsS50.far ?_ NB0_119.out _) | exact HI0.out)) (xk HO_3) (by decide)) hk (fun _ h => h.2)) (fun _ h => h.1))
    replace BK119 := am (KeepBut.blk hk (g' := gb119) (o := .cells #[.int .i64 ((rd_T42 x3_1 (ji11)).f0), .int .i64 ((rd_T42 x3_1 (ji11)).f1)] 42 (0, 0)) (xb BK119) NB119_0.out (by simp)); replace HK := am (KeepBut.trans (by repeat (first | (with_reducible first | exact HK.out | apply KeepBut.set_ | apply keep_drewN | apply keep_drew | apply keep_alloc | refine keep_far ?_ GW119.out _) | exact HK.out)) hk (.inl rfl)); replace HB := am (hb); replace HI0 := am (hi); (try clear hb); (try clear hb2); (try clear hk); (try clear hi); refine hK.out _ _ ⟨xz BK119 0, xz BK119 1⟩ (fun hHeld => ?_); clear hK K; refine yo ?_; refine xp 10 (some 34) #[true, true, true, true, true, true, true, true, true, true, true, false, false, false, false, false] HT_ ?_; refine xp 11 (some 35) #[true, true, true, true, true, true, true, true, true, true, true, true, false, false, false, false] HT_ ?_; refine xp 12 (some 36) #[true, true, true, true, true, true, true, true, true, true, true, true, true, false, false, false] HT_ ?_; refine one_ (i := 13) (N := some 37) #[true, true, true, true, true, true, true, true, true, true, true, true, true, true, false, false] rfl rfl (one_of HT_.out (by kernel_rfl)) (by decide) (fun K hK => ?_); refine value_ (w1 := ?_) (v := ?_) (by rfl) rfl ?_ ?_; rotate_left 2
    ·
     go_simp
     constructor
     ·
      rfl
     rfl
    refine hK.out _ _ ⟨(blk_cell (blk_alloc BK119.out _) 0).trans rfl, (blk_cell (blk_alloc BK119.out _) 1).trans rfl⟩ (fun hHeld => ?_); clear hK K; refine yo ?_; refine one_ (i := 14) (N := some 38) #[true, true, true, true, true, true, true, true, true, true, true, true, true, true, true, false] rfl rfl (one_of HT_.out (by kernel_rfl)) (by decide) (fun K hK => ?_); refine Kd.R_append_step k42 w.heap.size (by rfl) (.tmp 24) (.tmp 37) 23 42 (.agg #[(.int .i64 0), (.int .i64 0)]) 16 rfl Try.underlying23 info42 rfl (by decide) (by omega) (.slice (some ad118) x3_1.length co18) x3_1 (⟨wrap64 (((rd_T42 x3_1 (ji11)).f0) + t120), ji16⟩ : S42) [.int .i64 (wrap64 (((rd_T42 x3_1 (ji11)).f0) + t120)), .int .i64 ji16] (fun k_ => k_ ≠ gb119) (fun _ => False) rfl rfl ?aP (fun _ hk => hk.elim) ?aF ?aO (Below.refl _ _) ?aS ?aL ?_; (case aP => exact k42_mkM _ _ _ (⟨wrap64 (((rd_T42 x3_1 (ji11)).f0) + t120), ji16⟩ : S42)); (case aF => exact (fun k_ hk => Kd.freshB (g := gb119) (o := .cells #[.int .i64 ((rd_T42 x3_1 (ji11)).f0), .int .i64 ((rd_T42 x3_1 (ji11)).f1)] 42 (0, 0)) (xb BK119) k_ hk)); (case aO => exact (xk HO_3)); (case aS => exact (keep_size (w := w) (g := g) (row := none) (by repeat (first | (with_reducible first | exact HK.out | apply KeepBut.set_ | apply keep_drewN | apply keep_drew | apply keep_alloc | refine keep_far ?_ GW119.out _) | exact HK.out)))); (case aL => have := LMc17.out; omega); intro v125 w26 ho hb hg hat; rw [← Ny124.out] at ho; replace BK119 := am (blk_grown (g := gb119) (o := .cells #[.int .i64 ((rd_T42 x3_1 (ji11)).f0), .int .i64 ((rd_T42 x3_1 (ji11)).f1)] 42 (0, 0)) (xb BK119) hg (Kd.R_away HO_3.out (fun _ hk => hk))); replace HB := am (below_weaken (by repeat (first | (with_reducible first | exact HB.out | apply below_alloc | apply pw_below_drewN | apply below_drew1 | refine below_set ?_ (IsS50.ge HI0.out) | refine below_set ?_ GE119.out) | exact HB.out)) HL.out hb); replace HI0 := am (IsS50.grown (by repeat (first | (with_reducible first | exact HI0.out | apply IsS50.alloc | apply IsS50.drewN | apply IsS50.drew | apply IsS50.set_1 | refine IsS50.far ?_ NB0_119.out _) | exact HI0.out)) hg (IsS50.own_ne HI0.out HO_3.out (by decide))); replace HK := am (KeepBut.trans (by repeat (first | (with_reducible first | exact HK.out | apply KeepBut.set_ | apply keep_drewN | apply keep_drew | apply keep_alloc | refine keep_far ?_ GW119.out _) | exact HK.out)) (KeepBut.of_grown hg g) (Kd.R_base2 HO_3.out)); replace HO126 := am (ho); clear HO_3; clear ho hb hg hat; refine hK.out _ _ ⟨xz BK119 0, xz BK119 1⟩ (fun hHeld => ?_); clear hK K; refine yo ?_; refine xp 15 (some 3) #[true, true, true, true, true, true, true, true, true, true, true, true, true, true, true, true] HT_ ?_; refine done_ (done_of HT_.out (by kernel_rfl)) ?_
    try go_wp2
    go_roundg k1
    case measure => have := HK1.out; omega
    case rel => exact ⟨(y124), (wrap64 (x4_1 - 1)), (t123), xr, H', ⟨by have := HK1.out; omega⟩, ⟨by (with_reducible repeat (first | apply Kd.R_alloc | apply Kd.R_drewN | apply Kd.R_drew)); exact Kd.R_mono HO126.out (fun _ hk => trivial)⟩, ⟨by repeat (first | (with_reducible first | exact HI0.out | apply IsS50.alloc | apply IsS50.drewN | apply IsS50.drew | apply IsS50.set_1 | refine IsS50.far ?_ NB0_119.out _) | exact HI0.out)⟩, ⟨by repeat (first | (with_reducible first | exact HK.out | apply KeepBut.set_ | apply keep_drewN | apply keep_drew | apply keep_alloc | refine keep_far ?_ GW119.out _) | exact HK.out)⟩, ⟨by repeat (first | (with_reducible first | exact HB.out | apply below_alloc | apply pw_below_drewN | apply below_drew1 | refine below_set ?_ (IsS50.ge HI0.out) | refine below_set ?_ GE119.out) | exact HB.out)⟩⟩
   rw [if_neg c10] at H; have c10b0 : decide (0 < x4_1) = false := decide_eq_false c10; clear c10; simp only [Option.some.injEq, Prod.mk.injEq] at H; obtain ⟨rfl, rfl⟩ := H; go_wp2; go_ret; exact ⟨_, by first | rfl | (simp [errW_none, errW_some] <;> rfl) | (simp [*, errW_none, errW_some] <;> rfl), xk HO_3, by repeat (first | (with_reducible first | exact HI0.out | apply IsS50.alloc | apply IsS50.drewN | apply IsS50.drew | apply IsS50.set_1) | exact HI0.out), by repeat (first | (with_reducible first | exact HB.out | apply below_alloc | apply pw_below_drewN | apply below_drew1 | refine below_set ?_ (IsS50.ge HI0.out)) | exact HB.out), by repeat (first | (with_reducible first | exact HK.out | apply KeepBut.set_ | apply keep_drewN | apply keep_drew | apply keep_alloc) | exact HK.out)⟩

end Go.Proofs.Ytbiempkdfnfpgaa.PA
