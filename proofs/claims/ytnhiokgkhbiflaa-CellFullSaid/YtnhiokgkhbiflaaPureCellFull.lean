/- CellFull: filled by more than goes in a battery is full; filled by nothing, or less, it is as it was. No condition. -/
import Derived.Test.YtnhiokgkhbiflaaXx6
import Derived.Test.YtnhiokgkhbiflaaSatPlain
namespace Go.Proofs.Ytnhiokgkhbiflaa.Pure
open Go.RowKit Go.Proofs.Ytnhiokgkhbiflaa.X Go.Proofs.YtnhiokgkhbiflaaW.PrintWords Go.Proofs.YtnhiokgkhbiflaaW.PrintLast

theorem CellFull : paternosterlaw09_CellFull.Pure := by
  intro a0 f n b0 b1 bn
  have b0 := bounds_u16 b0
  have b1 := bounds_u16 b1
  have bn := bounds_i64 bn
  unfold paternosterlaw09_CellFull.f
  rw [wrap_in (x := a0) (by omega) (by omega), wrap_in (x := f) (by omega) (by omega), wrap_in (x := f + 1) (by omega) (by omega)]
  obtain ⟨h, hh, hh0, hh1⟩ : ∃ h, Int.tmod a0 (f + 1) = h ∧ 0 ≤ h ∧ h ≤ f := by
    rw [Int.tmod_eq_emod_of_nonneg (by omega)]
    have := Int.emod_lt_of_pos a0 (show 0 < f + 1 by omega)
    exact ⟨_, rfl, Int.emod_nonneg _ (by omega), by omega⟩
  rw [hh, fillf_eq hh0 hh1 (by omega), wrap_in (x := f - h) (by omega) (by omega)]
  simp only [paternosterlaw09_awake.f, cell_Cell_Can.f, Option.bind_some, if_true]
  rw [if_neg (by omega)]
  by_cases h1 : n ≤ 0
  · have e1 : mx n 0 = 0 := by unfold mx; split <;> omega
    have e2 : mn h f = h := by unfold mn; split <;> omega
    simp [h1, e1, e2]
  · have e1 : mx n 0 = n := by unfold mx; split <;> omega
    rw [if_neg h1, e1]
    by_cases h2 : n < f - h
    · have e2 : mn (h + n) f = h + n := by unfold mn; split <;> omega
      rw [e2, wrap_in (x := h + n + 1) (by omega) (by omega)]
      simp [h2, show h ≤ h + n by omega]; omega
    · have e2 : mn (h + n) f = f := by unfold mn; split <;> omega
      rw [e2, wrap_in (x := f + 1) (by omega) (by omega)]
      simp [h2, hh1]; omega
end Go.Proofs.Ytnhiokgkhbiflaa.Pure
