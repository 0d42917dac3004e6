/- MeterTells: whatever is drawn, tick by tick, what is metered, the last, and the most, are the document's. No condition. -/
import Derived.Test.YtnhiokgkhbiflaaPsMeterTells
import Derived.OpenShut
namespace Go.Proofs.Ytnhiokgkhbiflaa.Pure
open Go.RowKit Go.Proofs.Ytnhiokgkhbiflaa.X Go.Proofs.YtnhiokgkhbiflaaW.PrintWords

theorem MeterTells : paternosterlaw11_MeterTells.PureS := by
  unfold paternosterlaw11_MeterTells.PureS
  intros
  rfl
end Go.Proofs.Ytnhiokgkhbiflaa.Pure
