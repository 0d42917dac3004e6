/- PhaseWays: from any phase a car may be out, and comes back only through being stalled, or normal; to be parked it must have been recalled, or have served. -/
import Derived.Test.YtpnofbiflaahhaaDoorPsPhaseWays
import Derived.Test.YtpnofbiflaahhaaDoorPhaseFitsEq
namespace Go.Proofs.YtpnofbiflaahhaaDoor.Pure
open Go.RowKit Go.Proofs.YtpnofbiflaahhaaDoor.X Go.Proofs.YtpnofbiflaahhaaDoorW.PrintWords Go.Proofs.YtpnofbiflaahhaaDoorW.PrintLast

def rec (q : Int) : Bool := q == 2 || (q == 3 || q == 4)
theorem six {q : Int} (h : isP q) : q = 0 ∨ q = 1 ∨ q = 2 ∨ q = 3 ∨ q = 4 ∨ q = 5 := by unfold isP at h; omega
theorem ways_j1 (l : List Int) (i : Int) (h0 : 0 ≤ i) (h1 : i < (l.length : Int)) (hq : isP (rd l i)) (k : Nat) (x : Bool) : paternosterlaw21_PhaseWays.j1 (k + 1) l x i false = paternosterlaw21_PhaseWays.j2 k l x i false := by
  simp only [paternosterlaw21_PhaseWays.j1, Bool.false_eq_true, if_false, phase_May.f, Option.bind_some]
  rw [if_pos h0, if_pos h1]
  rcases six hq with e | e | e | e | e | e <;> rw [e] <;> rfl
theorem ways_j2 (l : List Int) (i : Int) (h0 : 0 ≤ i) (h1 : i < (l.length : Int)) (h2 : (l.length : Int) ≤ 200) (k : Nat) (x : Bool) : paternosterlaw21_PhaseWays.j2 (k + 1) l x i false = paternosterlaw21_PhaseWays.j3 k l x i (decide (i = 0) || !(mayB (rd l (i - 1)) (rd l i))) := by
  simp only [paternosterlaw21_PhaseWays.j2, Bool.false_eq_true, if_false, phase_May.f, Option.bind_some]
  by_cases hz : i = 0
  · rw [if_pos hz, decide_eq_true hz]; rfl
  · rw [if_neg hz, decide_eq_false hz, wrap_in (x := i - 1) (by omega) (by omega), if_pos (by omega), if_pos (by omega), if_pos h0, if_pos h1]; rfl
theorem ways_reset (l : List Int) (i : Int) (h0 : 0 ≤ i) (h1 : i < (l.length : Int)) (h2 : (l.length : Int) ≤ 200) (k : Nat) (x : Bool) : paternosterlaw21_PhaseWays.j3 (k + 1) l x i true = paternosterlaw21_PhaseWays.l0 k l (rec (rd l i)) (i + 1) := by
  simp only [paternosterlaw21_PhaseWays.j3, if_true]
  rw [if_pos h0, if_pos h1, wrap_in (x := i + 1) (by omega) (by omega)]
  unfold rec
  by_cases e2 : rd l i = 2
  · rw [e2]; rfl
  · by_cases e3 : rd l i = 3
    · rw [e3]; rfl
    · rw [if_neg e2, if_neg e3, beq_eq_false_iff_ne.2 e2, beq_eq_false_iff_ne.2 e3]; rfl
theorem ways_go (l : List Int) (i : Int) (h0 : 0 ≤ i) (h1 : i < (l.length : Int)) (h2 : (l.length : Int) ≤ 200) (hq : isP (rd l i)) (k : Nat) (x : Bool) (hx : rec (rd l i) = true → rd l i ≠ 2 → x = true) :
    paternosterlaw21_PhaseWays.j3 (k + 5) l x i false = paternosterlaw21_PhaseWays.l0 k l (rec (rd l i)) (i + 1) := by
  simp only [paternosterlaw21_PhaseWays.j3, paternosterlaw21_PhaseWays.j4, paternosterlaw21_PhaseWays.j5, paternosterlaw21_PhaseWays.j6, paternosterlaw21_PhaseWays.j7, Bool.false_eq_true, if_false, if_true, if_pos h0, if_pos h1, wrap_in (x := i + 1) (by omega) (by omega)]
  rcases six hq with e | e | e | e | e | e
  · simp [e, rec]
  · simp [e, rec]
  · simp [e, rec]
  · have : x = true := hx (by rw [e]; rfl) (by rw [e]; decide)
    subst this
    simp [e, rec]
  · have : x = true := hx (by rw [e]; rfl) (by rw [e]; decide)
    subst this
    simp [e, rec]
  · simp [e, rec]
theorem may_rec (p q : Int) (h : mayB p q = true) (hq : rec q = true) (h2 : q ≠ 2) : rec p = true := by
  have hp : isP p := by
    unfold mayB at h
    simp only [Bool.and_eq_true, decide_eq_true_eq] at h
    exact h.1
  have hq' : q = 3 ∨ q = 4 := by
    unfold rec at hq
    simp only [Bool.or_eq_true, beq_iff_eq] at hq
    omega
  rcases hq' with rfl | rfl <;> rcases six hp with rfl | rfl | rfl | rfl | rfl | rfl <;> first | rfl | (exact absurd h (by decide))
theorem ways_loop (l : List Int) (hl : (l.length : Int) ≤ 200) (m : Nat) : ∀ (i : Int) (k : Nat) (x : Bool), 0 ≤ i → (l.length : Int) - i = m → 8 * m + 1 ≤ k → (i ≠ 0 → rec (rd l (i - 1)) = true → x = true) →
    paternosterlaw21_PhaseWays.l0 k l x i = some true := by
  induction m with
  | zero =>
    intro i k x h0 hm hk hx
    obtain ⟨k, rfl⟩ : ∃ n, k = n + 1 := ⟨k - 1, by omega⟩
    simp only [paternosterlaw21_PhaseWays.l0]
    rw [if_neg (by omega)]
  | succ m ih =>
    intro i k x h0 hm hk hx
    obtain ⟨k, rfl⟩ : ∃ n, k = n + 8 := ⟨k - 8, by omega⟩
    have h1 : i < (l.length : Int) := by omega
    have nx : ∀ k' : Nat, k ≤ k' → paternosterlaw21_PhaseWays.l0 k' l (rec (rd l i)) (i + 1) = some true := fun k' hk' =>
      ih (i + 1) k' _ (by omega) (by omega) (by omega) (fun _ h => by rw [show i + 1 - 1 = i by omega] at h; exact h)
    simp only [paternosterlaw21_PhaseWays.l0]
    rw [if_pos h1, if_pos h0]
    by_cases hq : isP (rd l i)
    · have hq' := hq
      unfold isP at hq'
      rw [if_neg (by omega), decide_eq_false (by omega), ways_j1 l i h0 h1 hq, ways_j2 l i h0 h1 hl]
      by_cases hz : i = 0
      · rw [decide_eq_true hz, Bool.true_or, ways_reset l i h0 h1 hl]
        exact nx _ (by omega)
      · rw [decide_eq_false hz, Bool.false_or]
        by_cases hm' : mayB (rd l (i - 1)) (rd l i) = true
        · rw [hm']
          have := ways_go l i h0 h1 hl hq k x (fun ha hb => hx hz (may_rec _ _ hm' ha hb))
          simp only [Bool.not_true]
          rw [show (k + 5 : Nat) = k + 5 from rfl, this]
          exact nx _ (by omega)
        · rw [Bool.not_eq_true] at hm'
          rw [hm', Bool.not_false, ways_reset l i h0 h1 hl]
          exact nx _ (by omega)
    · unfold isP at hq
      by_cases c : rd l i < 0
      · rw [if_pos c]; rfl
      · rw [if_neg c, decide_eq_true (by omega)]; rfl
theorem PhaseWays : paternosterlaw21_PhaseWays.PureS := by
  intro l _
  refine ⟨40 + 30000, ?_⟩
  unfold paternosterlaw21_PhaseWays.f
  rw [awake1]
  simp only [Option.bind_some, if_true]
  by_cases h1 : (l.length : Int) > 200
  · rw [if_pos h1]
  · rw [if_neg h1]
    exact ways_loop l (by omega) l.length 0 _ false (by omega) (by omega) (by omega) (fun h => absurd rfl h)
end Go.Proofs.YtpnofbiflaahhaaDoor.Pure
