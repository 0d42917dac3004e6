/- FeedStays: a switch that is where it is wanted, or that may not go, stays; between places there is no power. No condition. -/
import Derived.Test.YtangjedacimmcaaPsFeedStays
import Derived.Test.YtangjedacimmcaaFeedPlain
namespace Go.Proofs.Ytangjedacimmcaa.Pure
open Go.RowKit Go.Proofs.Ytangjedacimmcaa.X Go.Proofs.YtangjedacimmcaaW.PrintWords Go.Proofs.YtangjedacimmcaaW.PrintLast

theorem stays_loop (l : List S25) (hl : (l.length : Int) ≤ 200) (g m o : Bool) (at' : Int) (ha : at' = if g then 2 else 1) (n : Nat) : ∀ (i : Int) (k : Nat), 0 ≤ i → i ≤ (l.length : Int) → (l.length : Int) - i ≤ n → n + 3 ≤ k →
    paternosterlaw10_FeedStays.l0 k l g m o at' i at' 0 0 = some true := by
  have h12 : at' = 1 ∨ at' = 2 := by cases g <;> simp at ha <;> omega
  have e1 : ∀ s d, stp at' 0 0 at' s d = (at', 0, 0) := fun s d => by simp [stp, h12]
  have e2 : ∀ w d, stp at' 0 0 w false d = (at', 0, 0) := fun s d => by simp only [stp, if_pos h12]; simp
  have e3 : ∀ d, stp at' 0 0 0 true d = (at', 0, 0) := fun d => by simp only [stp, if_pos h12]; simp
  induction n with
  | zero =>
    intro i k h0 h1 h2 hk
    obtain ⟨k, rfl⟩ : ∃ m, k = m + 3 := ⟨k - 3, by omega⟩
    simp only [paternosterlaw10_FeedStays.l0]
    rw [if_neg (by omega)]
    subst ha
    cases g <;> cases m <;> cases o <;> simp [feed_Feed_Power.f, feed_Feed_Power.j0]
  | succ n ih =>
    intro i k h0 h1 h2 hk
    obtain ⟨k, rfl⟩ : ∃ m, k = m + 1 := ⟨k - 1, by omega⟩
    by_cases hi : i < (l.length : Int)
    · simp only [paternosterlaw10_FeedStays.l0, feed_Feed_Step.f, Option.bind_some, e1, e2, e3]
      rw [if_pos hi, if_pos h0, wrap_in (x := i + 1) (by omega) (by omega)]
      simp only [beq_self_eq_true, Bool.not_true, Bool.false_or, Bool.false_eq_true, if_false]
      exact ih (i + 1) k (by omega) (by omega) (by omega) (by omega)
    · simp only [paternosterlaw10_FeedStays.l0]
      rw [if_neg hi]
      obtain ⟨k, rfl⟩ : ∃ m, k = m + 2 := ⟨k - 2, by omega⟩
      subst ha
      cases g <;> cases m <;> cases o <;> simp [feed_Feed_Power.f, feed_Feed_Power.j0]
theorem FeedStays : paternosterlaw10_FeedStays.PureS := by
  intro l g m o _ _ _ _
  refine ⟨1000, ?_⟩
  simp only [paternosterlaw10_FeedStays.f, paternosterlaw10_awake.f, Option.bind_some, if_true]
  by_cases h : (l.length : Int) > 200
  · rw [if_pos h]
  · rw [if_neg h]
    cases g
    · exact stays_loop l (by omega) false m o 1 rfl 200 0 _ (by omega) (by omega) (by omega) (by decide)
    · exact stays_loop l (by omega) true m o 2 rfl 200 0 _ (by omega) (by omega) (by omega) (by decide)
end Go.Proofs.Ytangjedacimmcaa.Pure
