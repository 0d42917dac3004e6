/- SatSteps: a sum of numbers, and one more, is the sum of the first ones, and that. No condition. -/
import Derived.Test.YtnhiokgkhbiflaaXx13
import Derived.Test.YtnhiokgkhbiflaaSatPlain2
namespace Go.Proofs.Ytnhiokgkhbiflaa.Pure
open Go.RowKit Go.Proofs.Ytnhiokgkhbiflaa.X Go.Proofs.YtnhiokgkhbiflaaW.PrintWords Go.Proofs.YtnhiokgkhbiflaaW.PrintLast

theorem SatSteps : paternosterlaw03_SatSteps.Pure := by
  intro l a _ _ _ _
  refine ⟨500, ?_⟩
  unfold paternosterlaw03_SatSteps.f
  rw [awake3 _ (by omega)]
  simp only [Option.bind_some, if_true]
  by_cases h : (l.length : Int) > 100
  · rw [if_pos h]
  · rw [if_neg h, if_pos (by simp; omega)]
    simp only [List.nil_append]
    rw [if_pos (by omega), sum_eq l (by omega) 500 (by omega), sum_eq (l ++ [a]) (by simp; omega) 500 (by simp; omega), List.foldl_append]
    generalize l.foldl stp (0, false) = s
    obtain ⟨x, m⟩ := s
    simp only [Option.bind_some, sat_Add.f, List.foldl_cons, List.foldl_nil, stp, if_true]
    cases m <;> simp
end Go.Proofs.Ytnhiokgkhbiflaa.Pure
