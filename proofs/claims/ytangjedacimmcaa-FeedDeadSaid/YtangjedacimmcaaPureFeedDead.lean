/- FeedDead: a switch is between places for just as many ticks, and then where it should be. No condition. -/
import Derived.Test.YtangjedacimmcaaXx10
import Derived.Test.YtangjedacimmcaaFeedPlain
namespace Go.Proofs.Ytangjedacimmcaa.Pure
open Go.RowKit Go.Proofs.Ytangjedacimmcaa.X Go.Proofs.YtangjedacimmcaaW.PrintWords Go.Proofs.YtangjedacimmcaaW.PrintLast

def dst (tt d i : Int) : Int × Int × Int := if i < d then (0, tt, d - i) else (tt, 0, 0)
theorem dead_loop (l : List Int) (hl : (l.length : Int) ≤ 250) (tt d : Int) (ht : tt = 1 ∨ tt = 2) (hd : 1 ≤ d ∧ d ≤ 200) (n : Nat) : ∀ (i : Int) (k : Nat), 0 ≤ i → i ≤ d → i ≤ (l.length : Int) → d - i ≤ n → 2 * n + 2 ≤ k →
    paternosterlaw10_FeedDead.l0 k l tt d i (dst tt d i).1 (dst tt d i).2.1 (dst tt d i).2.2 = some true := by
  induction n with
  | zero =>
    intro i k h0 h1 h2 h3 hk
    obtain ⟨k, rfl⟩ : ∃ m, k = m + 2 := ⟨k - 2, by omega⟩
    have hi : i = d := by omega
    subst hi
    simp only [paternosterlaw10_FeedDead.l0, paternosterlaw10_FeedDead.j2, dst, Int.lt_irrefl, if_false, decide_false, Bool.false_eq_true, ite_self]
    rw [if_neg (by omega)]
    simp
  | succ n ih =>
    intro i k h0 h1 h2 h3 hk
    obtain ⟨k, rfl⟩ : ∃ m, k = m + 2 := ⟨k - 2, by omega⟩
    by_cases hi : i = d
    · subst hi
      simp only [paternosterlaw10_FeedDead.l0, paternosterlaw10_FeedDead.j2, dst, Int.lt_irrefl, if_false, decide_false, Bool.false_eq_true, ite_self]
      rw [if_neg (by omega)]
      simp
    · by_cases hi2 : i < (l.length : Int)
      · have e : dst tt d i = (0, tt, d - i) := if_pos (by omega)
        rw [e]
        simp only [paternosterlaw10_FeedDead.l0, paternosterlaw10_FeedDead.j2]
        rw [if_pos hi2, decide_eq_true (show i < d by omega), wrap_in (x := d - i) (by omega) (by omega), wrap_in (x := i + 1) (by omega) (by omega)]
        simp only [if_true]
        rw [if_pos h0, if_pos hi2]
        have es : stp 0 tt (d - i) (wrap64 (rd l i)) true 5 = dst tt d (i + 1) := by
          simp only [stp, dst]
          rw [if_neg (by omega), wrap_in (x := d - i - 1) (by omega) (by omega)]
          by_cases hq : i + 1 < d
          · rw [if_pos (by omega), if_pos hq]; congr 2; omega
          · rw [if_neg (by omega), if_neg hq, if_pos ht]
        simp only [feed_Feed_Step.f, Option.bind_some, es]
        exact ih (i + 1) k (by omega) (by omega) (by omega) (by omega) (by omega)
      · have e : dst tt d i = (0, tt, d - i) := if_pos (by omega)
        rw [e]
        simp only [paternosterlaw10_FeedDead.l0, paternosterlaw10_FeedDead.j2]
        rw [if_neg hi2]
        simp only [Bool.false_eq_true, if_false]
        rw [if_pos (by omega)]
theorem dead_j (l : List Int) (hl : (l.length : Int) ≤ 250) (dead at' tt : Int) (ha : at' = 1 ∨ at' = 2) (ht : tt = 1 ∨ tt = 2) (hn : tt ≠ at') : paternosterlaw10_FeedDead.j0 1000 dead l at' tt = some true := by
  have hd := dead_in dead
  simp only [paternosterlaw10_FeedDead.j0, feed_Feed_Step.f, Option.bind_some]
  have e : stp at' 0 0 tt true dead = dst tt (mn (mx dead 1) 200) 0 := by
    simp only [stp, dst]
    rw [if_pos ha, if_neg (by simp; omega), if_pos (by omega)]
    simp
  rw [e]
  exact dead_loop l hl tt _ ht hd 200 0 _ (by omega) (by omega) (by omega) (by omega) (by omega)
theorem FeedDead : paternosterlaw10_FeedDead.Pure := by
  intro g d l _ _ _ _
  refine ⟨1000, ?_⟩
  simp only [paternosterlaw10_FeedDead.f, paternosterlaw10_awake.f, Option.bind_some, if_true]
  by_cases h : (l.length : Int) > 250
  · rw [if_pos h]
  · rw [if_neg h]
    cases g
    · exact dead_j l (by omega) d 1 2 (by omega) (by omega) (by omega)
    · exact dead_j l (by omega) d 2 1 (by omega) (by omega) (by omega)
end Go.Proofs.Ytangjedacimmcaa.Pure
