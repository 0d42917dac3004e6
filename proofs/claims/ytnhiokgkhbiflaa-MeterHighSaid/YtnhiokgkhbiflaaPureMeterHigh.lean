/- MeterHigh: the most that was metered is what one tick told, and no tick told more. No condition. -/
import Derived.Test.YtnhiokgkhbiflaaPsMeterHigh
import Derived.OpenShut
namespace Go.Proofs.Ytnhiokgkhbiflaa.Pure
open Go.RowKit Go.Proofs.Ytnhiokgkhbiflaa.X Go.Proofs.YtnhiokgkhbiflaaW.PrintWords

theorem MeterHigh : paternosterlaw11_MeterHigh.PureS := by
  unfold paternosterlaw11_MeterHigh.PureS
  intros
  rfl
end Go.Proofs.Ytnhiokgkhbiflaa.Pure
