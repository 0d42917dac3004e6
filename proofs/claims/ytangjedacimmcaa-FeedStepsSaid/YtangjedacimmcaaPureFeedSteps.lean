/- FeedSteps: any switch a tick on, and where power comes from, are the document's. No condition. -/
import Derived.Test.YtangjedacimmcaaPsFeedSteps
import Derived.Test.YtangjedacimmcaaFeedPlain
namespace Go.Proofs.Ytangjedacimmcaa.Pure
open Go.RowKit Go.Proofs.Ytangjedacimmcaa.X Go.Proofs.YtangjedacimmcaaW.PrintWords Go.Proofs.YtangjedacimmcaaW.PrintLast

theorem stp_ref (a t l w : Int) (s : Bool) (d : Int) (h0 : -1000000 ≤ l) (h1 : l ≤ 9223372036854775807) : stp a t l w s d = rstp a t l w s d := by
  simp only [stp, rstp, wrap_in (x := l - 1) (by omega) (by omega)]
  by_cases h : a = 1 ∨ a = 2
  · simp only [h, if_true]
  · simp only [h, if_false]
    by_cases hl : l > 1
    · rw [if_pos (by omega), if_pos hl]
    · rw [if_neg (by omega), if_neg hl]
      by_cases ht : t = 2
      · simp [ht]
      · by_cases ht1 : t = 1 <;> simp [ht, ht1]
theorem power_ref (a t l : Int) (x y : Bool) : ∃ p, feed_Feed_Power.f 1 a t l x y = some p ∧ paternosterref10_Power.f 1 a t l x y = some p := by
  simp only [feed_Feed_Power.f, paternosterref10_Power.f, feed_Feed_Power.j0, paternosterref10_Power.j0]
  by_cases h : a = 1 <;> by_cases h2 : a = 2 <;> cases x <;> cases y <;> simp [h, h2]
theorem FeedSteps : paternosterlaw10_FeedSteps.PureS := by
  intro a t l w s d m g h1 _ _ _
  have hl := wf64 h1.2.2
  refine ⟨1, ?_⟩
  obtain ⟨p, hp, hr⟩ := power_ref a t l m g
  simp only [paternosterlaw10_FeedSteps.f, paternosterlaw10_awake.f, Option.bind_some, if_true, paternosterlaw10_of.f, feed_Feed_Step.f, paternosterref10_Step.f]
  by_cases hn : l < -1000000
  · rw [if_pos hn]
  · rw [if_neg hn, stp_ref _ _ _ _ _ _ (by omega) hl.2, hp, hr]
    simp
end Go.Proofs.Ytangjedacimmcaa.Pure
