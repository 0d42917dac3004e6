/- SatTells: the sum and the product of any two numbers, and whether a bound was met, are the document's. No condition. -/
import Derived.Test.YtnhiokgkhbiflaaXx10
import Derived.Test.YtnhiokgkhbiflaaSatPlain2
namespace Go.Proofs.Ytnhiokgkhbiflaa.Pure
open Go.RowKit Go.Proofs.Ytnhiokgkhbiflaa.X Go.Proofs.YtnhiokgkhbiflaaW.PrintWords Go.Proofs.YtnhiokgkhbiflaaW.PrintLast

theorem SatTells : paternosterlaw03_SatTells.Pure := by
  intro a b _ _
  refine ⟨3, ?_⟩
  unfold paternosterlaw03_SatTells.f
  rw [awake3 3 (by omega), radd_eq]
  simp only [sat_Add.f, sat_Mul.f, paternosterref03_Mul.f, Option.bind_some, if_true, mulV_eq, mulM_eq, beq_self_eq_true]
end Go.Proofs.Ytnhiokgkhbiflaa.Pure
