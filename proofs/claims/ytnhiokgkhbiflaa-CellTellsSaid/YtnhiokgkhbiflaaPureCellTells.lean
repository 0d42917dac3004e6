/- CellTells: what any battery has, when any much is spent or filled, is the document's. No condition. -/
import Derived.Test.YtnhiokgkhbiflaaXx3
import Derived.Test.YtnhiokgkhbiflaaSatPlain
namespace Go.Proofs.Ytnhiokgkhbiflaa.Pure
open Go.RowKit Go.Proofs.Ytnhiokgkhbiflaa.X Go.Proofs.YtnhiokgkhbiflaaW.PrintWords Go.Proofs.YtnhiokgkhbiflaaW.PrintLast

theorem CellTells : paternosterlaw09_CellTells.Pure := by
  intro a0 a1 n b0 b1 bn
  have b0 := bounds_u32 b0
  have b1 := bounds_u32 b1
  have bn := bounds_i64 bn
  obtain ⟨f, hf, hf0, hf1⟩ : ∃ f, wrap64 (Int.tmod a1 1048577) = f ∧ 0 ≤ f ∧ f ≤ 1048576 := ⟨_, rfl, by rw [Int.tmod_eq_emod_of_nonneg (by omega)]; unfold wrap64; omega, by rw [Int.tmod_eq_emod_of_nonneg (by omega)]; unfold wrap64; omega⟩
  obtain ⟨h, hh, hh0, hh1⟩ : ∃ h, Int.tmod (wrap64 a0) (f + 1) = h ∧ 0 ≤ h ∧ h ≤ f := by
    rw [wrap_in (by omega) (by omega), Int.tmod_eq_emod_of_nonneg (by omega)]
    have := Int.emod_lt_of_pos a0 (show 0 < f + 1 by omega)
    exact ⟨_, rfl, Int.emod_nonneg _ (by omega), by omega⟩
  unfold paternosterlaw09_CellTells.f
  rw [hf, wrap_in (x := f + 1) (by omega) (by omega), hh, spend_eq hh0 hh1 hf1, fillf_eq hh0 hh1 hf1]
  simp only [paternosterlaw09_awake.f, paternosterref09_Spend.f, paternosterref09_Fill.f, cell_Cell_Can.f, Option.bind_some, if_true]
  rw [if_neg (by omega)]
  by_cases h1 : n ≤ h
  · by_cases h2 : n < 0
    · have e1 : mx n 0 = 0 := by unfold mx; split <;> omega
      have e2 : mn h f = h := by unfold mn; split <;> omega
      simp [h1, h2, e1, e2, show ¬ n > h by omega, show n ≤ 0 by omega]
    · have e1 : mx n 0 = n := by unfold mx; split <;> omega
      by_cases h3 : n ≤ 0
      · have e2 : mn (h + n) f = h := by unfold mn; split <;> omega
        simp [h1, h2, h3, e1, e2, show ¬ n > h by omega, wrap_in (x := h - n) (by omega) (by omega)]
      · by_cases h4 : n > f - h
        · have e2 : mn (h + n) f = f := by unfold mn; split <;> omega
          simp [h1, h2, h3, h4, e1, e2, show ¬ n > h by omega, wrap_in (x := h - n) (by omega) (by omega), wrap_in (x := f - h) (by omega) (by omega)]
        · have e2 : mn (h + n) f = h + n := by unfold mn; split <;> omega
          simp [h1, h2, h3, h4, e1, e2, show ¬ n > h by omega, wrap_in (x := h - n) (by omega) (by omega), wrap_in (x := f - h) (by omega) (by omega), wrap_in (x := h + n) (by omega) (by omega)]
  · have e1 : mx n 0 = n := by unfold mx; split <;> omega
    by_cases h4 : n > f - h
    · have e2 : mn (h + n) f = f := by unfold mn; split <;> omega
      simp [h1, h4, e1, e2, show n > h by omega, show ¬ n ≤ 0 by omega, wrap_in (x := f - h) (by omega) (by omega)]
    · have e2 : mn (h + n) f = h + n := by unfold mn; split <;> omega
      simp [h1, h4, e1, e2, show n > h by omega, show ¬ n ≤ 0 by omega, wrap_in (x := f - h) (by omega) (by omega), wrap_in (x := h + n) (by omega) (by omega)]
end Go.Proofs.Ytnhiokgkhbiflaa.Pure
