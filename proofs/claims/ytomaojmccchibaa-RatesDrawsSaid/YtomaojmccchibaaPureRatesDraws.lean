/- RatesDraws: of rates that may be, how much is drawn, and given back, whatever is done with whatever load, is the document's. No condition. -/
import Derived.Test.YtomaojmccchibaaPsRatesDraws
import Derived.Test.YtomaojmccchibaaRatesRef
namespace Go.Proofs.Ytomaojmccchibaa.Pure
open Go.RowKit Go.Proofs.Ytomaojmccchibaa.X Go.Proofs.YtomaojmccchibaaW.PrintWords

theorem RatesDraws : paternosterlaw04_RatesDraws.PureS := by
  intro a0 a1 a2 a3 a4 a5 what load dir _ _ _ _
  refine ⟨10, ?_⟩
  unfold paternosterlaw04_RatesDraws.f paternosterlaw04_awake.f
  have hc := check_f ⟨a0, a1, a2, a3, a4, a5⟩
  simp only at hc
  simp only [Option.bind_some, if_true]
  rw [hc]
  simp only [Option.bind_some]
  by_cases h : Ok ⟨a0, a1, a2, a3, a4, a5⟩
  · have d1 := draw_f h what load dir 10 (by omega)
    have d2 := rdraw_f h what load dir 10 (by omega)
    have g1 := gives_f h what load dir
    have g2 := rgives_f h what load dir 10 (by omega)
    simp only at d1 d2 g1 g2
    rw [if_pos (by simpa using h), d1]
    unfold paternosterlaw04_of.f
    simp only [Option.bind_some, d2, if_true, g1, g2, beq_self_eq_true]
  · rw [if_neg (by simpa using h)]
end Go.Proofs.Ytomaojmccchibaa.Pure
