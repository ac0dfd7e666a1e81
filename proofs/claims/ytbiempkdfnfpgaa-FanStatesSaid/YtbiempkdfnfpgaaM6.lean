/- What the laws of fans need beside the curves. -/
import Derived.Test.YtbiempkdfnfpgaaM4
import Derived.Test.YtbiempkdfnfpgaaM5
namespace Go.Proofs.Ytbiempkdfnfpgaa.M
open Go.RowKit Go.Proofs.Ytbiempkdfnfpgaa.PA Go.Proofs.YtbiempkdfnfpgaaW.PrintWords Go.Proofs.YtbiempkdfnfpgaaW.PrintLast Go.Proofs.YtbiempkdfnfpgaaW.PrintMore

theorem wf_u8 {x : Int} (h : (Lit.int .u8 x).wf = true) : 0 ≤ x ∧ x ≤ 255 := by
  have h : (decide ((0 : Int) ≤ x) && decide (x ≤ 255)) = true := h
  simp at h; omega
theorem wf_i64 {x : Int} (h : (Lit.int .i64 x).wf = true) : -9223372036854775808 ≤ x ∧ x ≤ 9223372036854775807 := by
  have h : (decide ((-9223372036854775808 : Int) ≤ x) && decide (x ≤ 9223372036854775807)) = true := h
  simp at h; omega

theorem awake07 : Ev (fun k => minecontrollaw07_awake.f k) true := Ev.of (fun k => minecontrollaw07_awake.mono k) (k := 20) (by decide +kernel)

theorem atS_good {r : Int} {b : Bool} {l : List S42} (h : ck r l = 0) {s q : Int} (s0 : -1 ≤ s) (s2 : s ≤ 2) (q0 : -1048577 ≤ q) (q1 : q ≤ 1048577) : atS r b l s q = sure l b s q := by
  unfold atS; rw [if_pos h, if_neg (by omega), if_neg (by omega), if_neg (by omega), if_neg (by omega)]
end Go.Proofs.Ytbiempkdfnfpgaa.M
