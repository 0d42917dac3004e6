/- MeterOrder. No condition. -/
import Derived.Test.YtnhiokgkhbiflaaPsMeterOrder
import Derived.OpenShut
namespace Go.Proofs.Ytnhiokgkhbiflaa.Pure
open Go.RowKit Go.Proofs.Ytnhiokgkhbiflaa.X Go.Proofs.YtnhiokgkhbiflaaW.PrintWords

theorem in32_wf {l : List Int} (h : ∀ x ∈ l, (Lit.int .i32 x).wf = true) : in32 l = true := by
  refine List.all_eq_true.2 fun x hx => ?_
  have := h x hx
  simp [Lit.wf, IntKind.min, IntKind.max, IntKind.bits, IntKind.signed] at this
  simp
  omega
theorem MeterOrder : paternosterlaw11_MeterOrder.PureS := by
  unfold paternosterlaw11_MeterOrder.PureS
  intro l0 l1 h0 h1
  unfold paternosterlaw11_MeterOrder.f
  rw [if_pos ⟨in32_wf h0.2, in32_wf h1.2⟩]
end Go.Proofs.Ytnhiokgkhbiflaa.Pure
