/- One telling, with the history as a function. -/
import Derived.Test.YtangjedacimmcaaFeedPlain
namespace Go.Proofs.Ytangjedacimmcaa.Pure
open Go.RowKit Go.Proofs.Ytangjedacimmcaa.X Go.Proofs.YtangjedacimmcaaW.PrintWords Go.Proofs.YtangjedacimmcaaW.PrintLast

theorem tell_step (L c i : Int) (H : Int → Int) (h0 : 0 ≤ L) (h8 : L ≤ 8) (hc : capOf c = H i) (y1 y2 y3 y4 y5 y6 y7 y8 : Int) (h1 : y1 = H (i - 1)) (h2 : y2 = H (i - 2)) (h3 : y3 = H (i - 3)) (h4 : y4 = H (i - 4)) (h5 : y5 = H (i - 5)) (h6 : y6 = H (i - 6)) (h7 : y7 = H (i - 7)) (h8' : y8 = H (i - 8)) :
    feed_Known_Tell.f L y1 y2 y3 y4 y5 y6 y7 y8 c = some (L, H i, y1, y2, y3, y4, y5, y6, y7, H (i - L)) := by
  unfold feed_Known_Tell.f
  rw [if_pos ⟨h0, h8⟩, hc]
  have e : knownOf L (H i) y1 y2 y3 y4 y5 y6 y7 y8 = H (i - L) := by
    subst h1 h2 h3 h4 h5 h6 h7 h8'
    unfold knownOf
    have h : L = 0 ∨ L = 1 ∨ L = 2 ∨ L = 3 ∨ L = 4 ∨ L = 5 ∨ L = 6 ∨ L = 7 ∨ L = 8 := by omega
    rcases h with rfl | rfl | rfl | rfl | rfl | rfl | rfl | rfl | rfl <;> simp
  rw [e]
end Go.Proofs.Ytangjedacimmcaa.Pure
