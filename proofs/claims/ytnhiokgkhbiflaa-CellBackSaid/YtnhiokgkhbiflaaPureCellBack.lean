/- CellBack: what was spent, and filled, is as it was; whoever can spend two things one behind the other can spend both at once. No condition. -/
import Derived.Test.YtnhiokgkhbiflaaXx5
import Derived.Test.YtnhiokgkhbiflaaSatPlain
namespace Go.Proofs.Ytnhiokgkhbiflaa.Pure
open Go.RowKit Go.Proofs.Ytnhiokgkhbiflaa.X Go.Proofs.YtnhiokgkhbiflaaW.PrintWords Go.Proofs.YtnhiokgkhbiflaaW.PrintLast

theorem CellBack : paternosterlaw09_CellBack.Pure := by
  intro h a b bh ba bb
  have bh := bounds_u16 bh
  have ba := bounds_u16 ba
  have bb := bounds_u16 bb
  unfold paternosterlaw09_CellBack.f
  rw [wrap_in (x := h) (by omega) (by omega), wrap_in (x := a) (by omega) (by omega), wrap_in (x := b) (by omega) (by omega), wrap_in (x := a + b) (by omega) (by omega)]
  simp only [paternosterlaw09_awake.f, cell_Cell_Can.f, Option.bind_some, if_true]
  have ea : mx a 0 = a := by unfold mx; split <;> omega
  have eb : mx b 0 = b := by unfold mx; split <;> omega
  have eab : mx (a + b) 0 = a + b := by unfold mx; split <;> omega
  rw [spend_eq (h := h) (by omega) (by omega) (by omega), spend_eq (h := h) (by omega) (by omega) (by omega), ea, eab]
  by_cases h1 : a ≤ h
  · rw [if_pos h1]
    simp only [Option.bind_some, if_true]
    rw [spend_eq (by omega) (by omega) (by omega), fillf_eq (by omega) (by omega) (by omega), ea, eb]
    have em : mn (h - a + a) 65535 = h := by unfold mn; split <;> omega
    rw [em]
    by_cases h2 : b ≤ h - a
    · rw [if_pos h2, if_pos (by omega)]
      simp [show a + b ≤ h by omega]; omega
    · rw [if_neg h2, if_neg (by omega)]
      simp [show ¬ a + b ≤ h by omega]
  · rw [if_neg h1]
    simp only [Option.bind_some]
    simp [show a > h by omega]
end Go.Proofs.Ytnhiokgkhbiflaa.Pure
