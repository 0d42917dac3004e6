/- Plain facts for the laws of layer 10. -/
import Derived.Test.YtangjedacimmcaaFeedAwake
import Derived.Test.YtangjedacimmcaaXx3
namespace Go.Proofs.Ytangjedacimmcaa.Pure
open Go.RowKit Go.Proofs.Ytangjedacimmcaa.X Go.Proofs.YtangjedacimmcaaW.PrintWords Go.Proofs.YtangjedacimmcaaW.PrintLast

theorem wf64 {a : Int} (h : (Lit.int .i64 a).wf = true) : -9223372036854775808 ≤ a ∧ a ≤ 9223372036854775807 := by
  simp [Lit.wf, IntKind.min, IntKind.max, IntKind.signed, IntKind.bits] at h
  omega
theorem wrap_in {x : Int} (h0 : -9223372036854775808 ≤ x) (h1 : x ≤ 9223372036854775807) : wrap64 x = x := by
  unfold wrap64
  omega
theorem mx_l {a b : Int} (h : ¬ a < b) : mx a b = a := if_neg h
theorem mx_r {a b : Int} (h : a < b) : mx a b = b := if_pos h
theorem mn_l {a b : Int} (h : ¬ b < a) : mn a b = a := if_neg h
theorem mn_r {a b : Int} (h : b < a) : mn a b = b := if_pos h
theorem wf_u8 {n : Int} (h : (Lit.int .u8 n).wf = true) : 0 ≤ n ∧ n ≤ 255 := by
  simp [Lit.wf, IntKind.min, IntKind.max, IntKind.signed, IntKind.bits] at h
  omega
theorem wf_u16 {n : Int} (h : (Lit.int .u16 n).wf = true) : 0 ≤ n ∧ n ≤ 65535 := by
  simp [Lit.wf, IntKind.min, IntKind.max, IntKind.signed, IntKind.bits] at h
  omega
theorem dead_in (d : Int) : 1 ≤ mn (mx d 1) 200 ∧ mn (mx d 1) 200 ≤ 200 := by
  simp only [mn, mx]
  split <;> split <;> omega
end Go.Proofs.Ytangjedacimmcaa.Pure
