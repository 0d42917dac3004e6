/- ConfOrders: a group with the same order the other way round, or begun elsewhere, may be just as well, and takes as long. No condition. -/
import Derived.Test.YtomaojmccchibaaPsConfOrders
import Derived.Test.YtomaojmccchibaaConfOrdersPlain
import Derived.OpenShut
namespace Go.Proofs.Ytomaojmccchibaa.Pure
open Go.RowKit Go.Proofs.Ytomaojmccchibaa.X Go.Proofs.YtomaojmccchibaaW.PrintWords

theorem ConfOrders : paternosterlaw05_ConfOrders.PureS := by
  intro l x1 x2 o x4 x5 x6 x7 x8 x9 x10 x11 x12 a b _ ha _
  have := bounds_u8 ha
  exact ⟨400, orders_true l x1 x2 o x4 x5 x6 x7 x8 x9 x10 x11 x12 a b this.1 (by omega)⟩
end Go.Proofs.Ytomaojmccchibaa.Pure
