/- FeedGoes: a switch goes from one place to the other with as many ticks between as it takes. No condition. -/
import Derived.Test.YtangjedacimmcaaPsFeedGoes
import Derived.Test.YtangjedacimmcaaFeedPlain
namespace Go.Proofs.Ytangjedacimmcaa.Pure
open Go.RowKit Go.Proofs.Ytangjedacimmcaa.X Go.Proofs.YtangjedacimmcaaW.PrintWords Go.Proofs.YtangjedacimmcaaW.PrintLast

theorem power_at (k : Nat) (a t l : Int) (h : a = 1 ∨ a = 2) : feed_Feed_Power.f (k + 1) a t l true true = some a := by
  rcases h with rfl | rfl <;> simp [feed_Feed_Power.f, feed_Feed_Power.j0]
theorem power_no (k : Nat) (t l : Int) : feed_Feed_Power.f (k + 1) 0 t l true true = some 0 := by
  simp [feed_Feed_Power.f, feed_Feed_Power.j0]
def Inv (x7 x8 x9 x10 a t l : Int) : Prop :=
  ((a = 1 ∨ a = 2) ∧ t = 0 ∧ l = 0) ∨ (a = 0 ∧ t = x8 ∧ (t = 1 ∨ t = 2) ∧ x7 ≠ x8 ∧ 1 ≤ x9 ∧ x9 ≤ x10 ∧ x10 ≤ 200 ∧ l = x10 - x9 + 1)
theorem goes_loop (s : List S25) (hs : (s.length : Int) ≤ 300) (n : Nat) : ∀ (i : Int) (k : Nat) (x7 x8 x9 x10 a t l : Int), 0 ≤ i → i ≤ (s.length : Int) → (s.length : Int) - i ≤ n → 3 * n + 5 ≤ k → Inv x7 x8 x9 x10 a t l →
    paternosterlaw10_FeedGoes.l0 k s x7 x8 x9 x10 i a t l = some true := by
  induction n with
  | zero =>
    intro i k x7 x8 x9 x10 a t l h0 hi hn hk hv
    obtain ⟨k, rfl⟩ : ∃ m, k = m + 1 := ⟨k - 1, by omega⟩
    simp only [paternosterlaw10_FeedGoes.l0]
    rw [if_neg (by omega)]
  | succ n ih =>
    intro i k x7 x8 x9 x10 a t l h0 hi hn hk hv
    obtain ⟨k, rfl⟩ : ∃ m, k = m + 4 := ⟨k - 4, by omega⟩
    simp only [paternosterlaw10_FeedGoes.l0]
    by_cases hc : i < (s.length : Int)
    · rw [if_pos hc, if_pos h0]
      obtain ⟨wn, hwn⟩ : ∃ x, (rd_T25 s i).f0 = x := ⟨_, rfl⟩
      obtain ⟨st, hst⟩ : ∃ x, (rd_T25 s i).f1 = x := ⟨_, rfl⟩
      obtain ⟨dd, hdd⟩ : ∃ x, (rd_T25 s i).f2 = x := ⟨_, rfl⟩
      rw [hwn, hst, hdd]
      have hd := dead_in dd
      have ei : wrap64 (i + 1) = i + 1 := wrap_in (by omega) (by omega)
      simp only [feed_Feed_Step.f, Option.bind_some]
      rcases hv with ⟨ha, rfl, rfl⟩ | ⟨rfl, rfl, ht, h78, h9, h910, h10, rfl⟩
      · by_cases hw : wn = a ∨ ¬ (wn = 1 ∨ wn = 2) ∨ st = false
        · have e : stp a 0 0 wn st dd = (a, 0, 0) := by simp only [stp]; rw [if_pos ha, if_pos hw]
          rw [e]
          simp only []
          rw [if_neg (by omega), if_neg (by omega)]
          simp only [beq_self_eq_true, Bool.not_true, Bool.or_false, paternosterlaw10_FeedGoes.j4, Bool.false_eq_true, if_false, ei]
          exact ih (i + 1) (k + 2) x7 x8 x9 x10 a 0 0 (by omega) (by omega) (by omega) (by omega) (Or.inl ⟨ha, rfl, rfl⟩)
        · have e : stp a 0 0 wn st dd = (0, wn, mn (mx dd 1) 200) := by simp only [stp]; rw [if_pos ha, if_neg hw]
          have hsT : st = true := by cases st with | true => rfl | false => exact absurd (Or.inr (Or.inr rfl)) hw
          rw [e]
          simp only [if_true]
          rw [if_neg (by omega), if_pos hsT, if_neg (by omega), power_at (k + 2) a 0 0 ha]
          simp only [Option.bind_some, paternosterlaw10_FeedGoes.j2, bne_self_eq_false, Bool.false_eq_true, if_false]
          rw [if_pos h0, if_pos hc, hwn, hdd]
          simp only [paternosterlaw10_FeedGoes.j3]
          rw [wrap_in (x := (0 : Int) + 1) (by omega) (by omega), if_neg (by omega), power_no k wn _]
          simp only [Option.bind_some, if_true, ei]
          exact ih (i + 1) (k + 1) a wn (0 + 1) (mn (mx dd 1) 200) 0 wn (mn (mx dd 1) 200) (by omega) (by omega) (by omega) (by omega) (Or.inr ⟨rfl, rfl, by omega, by omega, by omega, by omega, by omega, by omega⟩)
      · by_cases hl : x9 < x10
        · have e : stp 0 t (x10 - x9 + 1) wn st dd = (0, t, x10 - x9) := by
            simp only [stp]
            rw [if_neg (by omega), wrap_in (x := x10 - x9 + 1 - 1) (by omega) (by omega), if_pos (by omega)]
            congr 2
            omega
          rw [e]
          simp only [if_true, paternosterlaw10_FeedGoes.j3]
          rw [wrap_in (x := x9 + 1) (by omega) (by omega), if_neg (by omega), power_no (k + 1) t _]
          simp only [Option.bind_some, if_true, ei]
          exact ih (i + 1) (k + 2) x7 t (x9 + 1) x10 0 t (x10 - x9) (by omega) (by omega) (by omega) (by omega) (Or.inr ⟨rfl, rfl, ht, h78, by omega, by omega, by omega, by omega⟩)
        · have e : stp 0 t (x10 - x9 + 1) wn st dd = (t, 0, 0) := by
            simp only [stp]
            rw [if_neg (by omega), wrap_in (x := x10 - x9 + 1 - 1) (by omega) (by omega), if_neg (by omega), if_pos ht]
          rw [e]
          simp only [if_true]
          rw [if_neg (by omega), if_neg (by omega), if_pos (by omega)]
          simp only [paternosterlaw10_FeedGoes.j4, Bool.false_eq_true, if_false, ei]
          exact ih (i + 1) (k + 2) x7 t x9 x10 t 0 0 (by omega) (by omega) (by omega) (by omega) (Or.inl ⟨ht, rfl, rfl⟩)
    · rw [if_neg hc]
theorem FeedGoes : paternosterlaw10_FeedGoes.PureS := by
  intro l g _ _
  refine ⟨1000, ?_⟩
  simp only [paternosterlaw10_FeedGoes.f, paternosterlaw10_awake.f, Option.bind_some, if_true]
  by_cases h : (l.length : Int) > 300
  · rw [if_pos h]
  · rw [if_neg h]
    cases g
    · exact goes_loop l (by omega) 300 0 999 1 0 0 0 1 0 0 (by omega) (by omega) (by omega) (by decide) (Or.inl ⟨by omega, rfl, rfl⟩)
    · exact goes_loop l (by omega) 300 0 999 2 0 0 0 2 0 0 (by omega) (by omega) (by omega) (by decide) (Or.inl ⟨by omega, rfl, rfl⟩)
end Go.Proofs.Ytangjedacimmcaa.Pure
