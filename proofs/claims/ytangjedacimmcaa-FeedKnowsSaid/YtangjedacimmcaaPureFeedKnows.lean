/- FeedKnows: what is known, however late, is the document's. No condition. -/
import Derived.Test.YtangjedacimmcaaXx6
import Derived.Test.YtangjedacimmcaaFeedPlain
import Derived.Test.YtangjedacimmcaaFeedTell
namespace Go.Proofs.Ytangjedacimmcaa.Pure
open Go.RowKit Go.Proofs.Ytangjedacimmcaa.X Go.Proofs.YtangjedacimmcaaW.PrintWords Go.Proofs.YtangjedacimmcaaW.PrintLast

theorem lag_in (l : Int) : 0 ≤ lagOf l ∧ lagOf l ≤ 8 := by
  simp only [lagOf, mn, mx]
  split <;> split <;> omega
def hist (l : List Int) (m : Int) : Int := if m < 0 then 0 else capOf (rd l m)
theorem known_ref (a : Int) (l : List Int) (k : Nat) (i : Int) (h0 : 0 ≤ i) (h1 : i < (l.length : Int)) (hl : (l.length : Int) ≤ 200) :
    paternosterref10_Known.f (k + 2) a (l.take (i + 1).toNat) = some (hist l (i - lagOf a)) := by
  have hlen : ((l.take (i + 1).toNat).length : Int) = i + 1 := by simp; omega
  have hL := lag_in a
  have key : paternosterref10_Known.j1 k (lagOf a) (l.take (i + 1).toNat) = paternosterref10_Known.j1 k (lagOf a) (l.take (i + 1).toNat) := rfl
  have h : paternosterref10_Known.f (k + 2) a (l.take (i + 1).toNat) = paternosterref10_Known.j1 (k + 1) (lagOf a) (l.take (i + 1).toNat) := by
    unfold paternosterref10_Known.f
    simp only [paternosterref10_Known.j0, lagOf]
    by_cases c1 : a < 0
    · rw [if_pos c1, if_neg (by omega), mx_r c1, mn_l (by omega)]
    · by_cases c2 : a > 8
      · rw [if_neg c1, if_pos c2, mx_l c1, mn_r c2]
      · rw [if_neg c1, if_neg c2, mx_l c1, mn_l (by omega)]
  rw [h]
  simp only [paternosterref10_Known.j1, hlen]
  rw [wrap_in (x := i + 1 - 1) (by omega) (by omega), wrap_in (x := i + 1 - 1 - lagOf a) (by omega) (by omega), show i + 1 - 1 - lagOf a = i - lagOf a by omega]
  unfold hist
  by_cases c : i - lagOf a < 0
  · rw [if_pos c, if_pos c]
  · rw [if_neg c, if_neg c, if_pos (by omega), if_pos (by omega)]
    have er : rd (l.take (i + 1).toNat) (i - lagOf a) = rd l (i - lagOf a) := by
      unfold rd
      simp only [List.getD_eq_getElem?_getD]
      rw [List.getElem?_take_of_lt (by omega)]
    rw [er]
    unfold capOf
    by_cases c3 : rd l (i - lagOf a) < 0
    · rw [if_pos c3, mx_r c3, mn_l (by omega)]
    · by_cases c4 : rd l (i - lagOf a) > 1048576
      · rw [if_neg c3, if_pos c4, mx_l c3, mn_r c4]
      · rw [if_neg c3, if_neg c4, mx_l c3, mn_l (by omega)]
theorem knows_loop (a : Int) (l : List Int) (hl : (l.length : Int) ≤ 200) (H : Int → Int) (hH : H = hist l) (n : Nat) : ∀ (i : Int) (k : Nat) (y1 y2 y3 y4 y5 y6 y7 y8 : Int), 0 ≤ i → i ≤ (l.length : Int) → (l.length : Int) - i ≤ n → n + 4 ≤ k → y1 = H (i - 1) → y2 = H (i - 2) → y3 = H (i - 3) → y4 = H (i - 4) → y5 = H (i - 5) → y6 = H (i - 6) → y7 = H (i - 7) → y8 = H (i - 8) →
    paternosterlaw10_FeedKnows.l0 k a l i (lagOf a) y1 y2 y3 y4 y5 y6 y7 y8 = some true := by
  induction n with
  | zero =>
    intro i k y1 y2 y3 y4 y5 y6 y7 y8 h0 hi hn hk h1 h2 h3 h4 h5 h6 h7 h8
    obtain ⟨k, rfl⟩ : ∃ m, k = m + 1 := ⟨k - 1, by omega⟩
    simp only [paternosterlaw10_FeedKnows.l0]
    rw [if_neg (by omega)]
  | succ n ih =>
    intro i k y1 y2 y3 y4 y5 y6 y7 y8 h0 hi hn hk h1 h2 h3 h4 h5 h6 h7 h8
    obtain ⟨k, rfl⟩ : ∃ m, k = m + 1 := ⟨k - 1, by omega⟩
    simp only [paternosterlaw10_FeedKnows.l0]
    by_cases hc : i < (l.length : Int)
    · have hL := lag_in a
      have hcap : capOf (rd l i) = H i := by rw [hH]; unfold hist; rw [if_neg (by omega)]
      rw [if_pos hc, if_pos h0, tell_step (lagOf a) (rd l i) i H hL.1 hL.2 hcap y1 y2 y3 y4 y5 y6 y7 y8 h1 h2 h3 h4 h5 h6 h7 h8, wrap_in (x := i + 1) (by omega) (by omega)]
      simp only [Option.bind_some]
      rw [if_pos (by omega), if_pos (by omega)]
      obtain ⟨k, rfl⟩ : ∃ m, k = m + 2 := ⟨k - 2, by omega⟩
      rw [known_ref a l k i h0 hc hl]
      simp only [Option.bind_some]
      rw [if_pos (by rw [hH])]
      exact ih (i + 1) (k + 2) (H i) y1 y2 y3 y4 y5 y6 y7 (by omega) (by omega) (by omega) (by omega) (congrArg H (by omega)) (by rw [h1]; exact congrArg H (by omega)) (by rw [h2]; exact congrArg H (by omega)) (by rw [h3]; exact congrArg H (by omega)) (by rw [h4]; exact congrArg H (by omega)) (by rw [h5]; exact congrArg H (by omega)) (by rw [h6]; exact congrArg H (by omega)) (by rw [h7]; exact congrArg H (by omega))
    · rw [if_neg hc]
theorem FeedKnows : paternosterlaw10_FeedKnows.Pure := by
  intro a l _ _ _ _
  refine ⟨1000, ?_⟩
  simp only [paternosterlaw10_FeedKnows.f, paternosterlaw10_awake.f, feed_New.f, Option.bind_some, if_true]
  by_cases h : (l.length : Int) > 200
  · rw [if_pos h]
  · rw [if_neg h]
    have z : ∀ j : Int, j < 0 → (0 : Int) = hist l j := fun j hj => by unfold hist; rw [if_pos hj]
    exact knows_loop a l (by omega) (hist l) rfl 200 0 1000 0 0 0 0 0 0 0 0 (by omega) (by omega) (by omega) (by decide) (z _ (by omega)) (z _ (by omega)) (z _ (by omega)) (z _ (by omega)) (z _ (by omega)) (z _ (by omega)) (z _ (by omega)) (z _ (by omega))
end Go.Proofs.Ytangjedacimmcaa.Pure
