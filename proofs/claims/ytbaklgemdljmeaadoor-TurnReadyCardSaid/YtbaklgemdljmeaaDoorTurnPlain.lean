/- Plain facts on turns: who is next, and what a step comes to. -/
import Derived.Test.YtbaklgemdljmeaaDoorTurnBits
import Derived.Test.YtbaklgemdljmeaaDoorTurnStep
import Derived.Test.YtbaklgemdljmeaaDoorXx5
namespace Go.Proofs.YtbaklgemdljmeaaDoor.X
open Go.RowKit Go.Proofs.YtbaklgemdljmeaaDoorW.PrintWords

/-- The lowest bit's place; -1: there is none. -/
def low (n : Nat) : Int := if n = 0 then -1 else (Lib.ctz 64 n : Nat)
theorem low_spec (n : Nat) (h0 : n ≠ 0) (hn : n < 18446744073709551616) : ∃ i : Nat, low n = (i : Int) ∧ i < 64 ∧ n.testBit i = true ∧ ∀ j, j < i → n.testBit j = false := by
  obtain ⟨m, hm, hk⟩ := Lib.ctzFrom_spec 64 n (by omega) (by simpa using hn)
  refine ⟨Lib.ctzFrom 64 n, by unfold low Lib.ctz; rw [if_neg h0, if_neg h0], hk, ?_, ?_⟩
  · generalize Lib.ctzFrom 64 n = i at *
    subst hm
    rw [Nat.testBit_two_pow_mul]
    simp [Nat.testBit_zero]
  · intro j hj
    generalize Lib.ctzFrom 64 n = i at *
    subst hm
    rw [Nat.testBit_two_pow_mul]
    simp; omega
theorem low_eq {n i : Nat} (hn : n < 18446744073709551616) (h1 : n.testBit i = true) (h2 : ∀ j, j < i → n.testBit j = false) : low n = (i : Int) := by
  have h0 : n ≠ 0 := by intro e; subst e; simp at h1
  obtain ⟨k, e, _, h3, h4⟩ := low_spec n h0 hn
  rcases Nat.lt_trichotomy k i with h | h | h
  · rw [h2 k h] at h3; cases h3
  · rw [e, h]
  · rw [h4 i h] at h1; cases h1
/-- The bits from place j on. -/
def upTo (n j : Nat) : Nat := 2 ^ j * (n / 2 ^ j)
theorem upTo_test (n j i : Nat) : (upTo n j).testBit i = (decide (j ≤ i) && n.testBit i) := by
  unfold upTo
  rw [Nat.testBit_two_pow_mul]
  by_cases h : j ≤ i
  · rw [Nat.testBit_div_two_pow, Nat.sub_add_cancel h]
  · simp [h]
theorem upTo_lt {n j : Nat} (hn : n < 18446744073709551616) : upTo n j < 18446744073709551616 := Nat.lt_of_le_of_lt (by unfold upTo; rw [Nat.mul_comm]; exact Nat.div_mul_le_self _ _) hn
theorem upTo_zero (n : Nat) : upTo n 0 = n := by simp [upTo]
theorem upTo_big {n : Nat} (hn : n < 18446744073709551616) : upTo n 64 = 0 := by unfold upTo; rw [Nat.div_eq_of_lt (by simpa using hn)]
theorem upTo_step {n j : Nat} (hn : n < 18446744073709551616) (hj : j < 64) : clr (upTo n j) (bitN j) = upTo n (j + 1) := by
  apply Nat.eq_of_testBit_eq
  intro i
  have hj2 : decide (0 ≤ (j : Int) ∧ (j : Int) < 64) = true := decide_eq_true (by omega)
  rw [clr_test (upTo_lt hn) (bitN_lt _), upTo_test, upTo_test, bitN_test, hj2]
  have hi : (j : Int).toNat = j := by omega
  rw [hi, Bool.true_and]
  rcases Nat.lt_trichotomy j i with h | h | h
  · rw [decide_eq_true (show j ≤ i by omega), decide_eq_true (show j + 1 ≤ i by omega), decide_eq_false (show ¬ j = i by omega)]; simp
  · rw [decide_eq_true h, decide_eq_false (show ¬ j + 1 ≤ i by omega)]; simp
  · rw [decide_eq_false (show ¬ j ≤ i by omega), decide_eq_false (show ¬ j + 1 ≤ i by omega)]; simp
theorem upTo_skip {n j : Nat} (h : n.testBit j = false) : upTo n (j + 1) = upTo n j := by
  apply Nat.eq_of_testBit_eq
  intro i
  rw [upTo_test, upTo_test]
  by_cases h2 : j = i
  · subst h2; simp [h]
  · by_cases h3 : j ≤ i
    · rw [decide_eq_true h3, decide_eq_true (by omega)]
    · rw [decide_eq_false h3, decide_eq_false (by omega)]
theorem low_upTo {n j : Nat} (hn : n < 18446744073709551616) (h : n.testBit j = true) : upTo n j ≠ 0 ∧ low (upTo n j) = (j : Int) := by
  have h1 : (upTo n j).testBit j = true := by rw [upTo_test]; simp [h]
  refine ⟨by intro e; rw [e] at h1; simp at h1, low_eq (upTo_lt hn) h1 ?_⟩
  intro i hi
  rw [upTo_test, decide_eq_false (by omega), Bool.false_and]
/-- Who is next, behind a car. -/
def nx (n : Nat) (c : Int) : Int := if upTo n (c + 1).toNat = 0 then low n else low (upTo n (c + 1).toNat)
theorem first_f (n : Nat) (hn : n < 18446744073709551616) : turn_first.f (n : Int) = some (low n) := by
  unfold turn_first.f low bits_TrailingZeros64.f
  by_cases h : n = 0
  · subst h; simp
  · rw [if_neg (by omega), if_neg h, if_pos (by omega)]; simp
theorem next_loop (n : Nat) (hn : n < 18446744073709551616) (e : Int) (he : e ≤ 64) (d : Nat) : ∀ (k j : Nat), (j : Int) + d = e → d < k → turn_next.l0 k n (upTo n j : Nat) e j = some (if upTo n e.toNat = 0 then low n else low (upTo n e.toNat)) := by
  induction d with
  | zero =>
    intro k j hd hk
    obtain ⟨k, rfl⟩ : ∃ m, k = m + 1 := ⟨k - 1, by omega⟩
    simp only [turn_next.l0]
    rw [if_neg (by omega), first_f _ (upTo_lt hn), show j = e.toNat by omega]
    simp only [Option.bind_some]
    by_cases h : upTo n e.toNat = 0
    · rw [if_pos h, h, first_f _ hn]; simp [low]
    · obtain ⟨i, hi, _⟩ := low_spec _ h (upTo_lt hn)
      rw [if_neg h, hi, if_neg (by omega)]
  | succ d ih =>
    intro k j hd hk
    obtain ⟨k, rfl⟩ : ∃ m, k = m + 1 := ⟨k - 1, by omega⟩
    simp only [turn_next.l0]
    rw [if_pos (by omega), without_f _ (upTo_lt hn), upTo_step hn (by omega)]
    simp only [Option.bind_some]
    rw [wrap_in (by omega) (by omega)]
    have := ih k (j + 1) (by omega) (by omega)
    simpa using this
theorem next_neg (n : Nat) (hn : n < 18446744073709551616) (e : Int) (he : e ≤ 0) (k : Nat) : turn_next.l0 (k + 1) n n e 0 = some (if n = 0 then low n else low n) := by
  simp only [turn_next.l0]
  rw [if_neg (by omega), first_f _ hn]
  simp only [Option.bind_some]
  by_cases h : n = 0
  · subst h; simp [low]
  · obtain ⟨i, hi, _⟩ := low_spec _ h hn
    rw [if_neg h, hi, if_neg (by omega)]
theorem next_f (n : Nat) (hn : n < 18446744073709551616) (c : Int) (h0 : -9223372036854775808 ≤ c) (h1 : c ≤ 63) : turn_next.f 100 c n = some (nx n c) := by
  unfold turn_next.f nx
  rw [wrap_in (by omega) (by omega)]
  by_cases h : c + 1 ≤ 0
  · rw [show (c + 1).toNat = 0 by omega, upTo_zero]
    exact next_neg n hn (c + 1) h 99
  · have := next_loop n hn (c + 1) (by omega) (c + 1).toNat 100 0 (by omega) (by omega)
    rw [upTo_zero] at this
    exact this
def ofV (u p : Int) : Int × Int := if u < 0 then (-1, 0) else (u, mx p 1)
theorem of_f (u p : Int) : turn_of.f u p = some (ofV u p) := by
  unfold turn_of.f ofV turn_None.f
  by_cases h : u < 0
  · rw [if_pos h, if_pos h]; rfl
  · rw [if_neg h, if_neg h]
/-- A turn, a tick on. -/
def stepV (n : Nat) (c l : Int) (b : Bool) (p : Int) : Int × Int :=
  if hasN n c = true then (if b = true then (c, l) else if wrap64 (l - 1) < 1 then ofV (nx n c) p else (c, wrap64 (l - 1))) else ofV (nx n c) p
theorem step_f (n : Nat) (hn : n < 18446744073709551616) (c l : Int) (b : Bool) (p : Int) (h0 : -9223372036854775808 ≤ c) (h1 : c ≤ 63) : turn_Turn_Step.f c l n b p = some (stepV n c l b p) := by
  unfold turn_Turn_Step.f stepV onF
  rw [has_f n hn, next_f n hn c h0 h1]
  simp only [Option.bind_some, of_f]
  split
  · split
    · rfl
    · split <;> rfl
  · rfl
theorem nx_zero (c : Int) : nx 0 c = -1 := by simp [nx, upTo, low]
theorem hasN_of {n i : Nat} (hi : i < 64) (h : n.testBit i = true) : hasN n (i : Int) = true := by
  unfold hasN; rw [decide_eq_true (by omega)]; simpa using h
/-- Who is next is ready. -/
theorem nx_ready {n : Nat} (hn : n < 18446744073709551616) (h0 : n ≠ 0) (c : Int) : ∃ i : Nat, nx n c = (i : Int) ∧ i < 64 ∧ n.testBit i = true := by
  unfold nx
  split
  · obtain ⟨i, h1, h2, h3, _⟩ := low_spec n h0 hn
    exact ⟨i, h1, h2, h3⟩
  · rename_i h
    obtain ⟨i, h1, h2, h3, _⟩ := low_spec _ h (upTo_lt hn)
    rw [upTo_test, Bool.and_eq_true] at h3
    exact ⟨i, h1, h2, h3.2⟩
/-- The least one above, if there is one. -/
theorem nx_above {n : Nat} (hn : n < 18446744073709551616) {c : Int} {i : Nat} (hc : c < i) (h1 : n.testBit i = true) (h2 : ∀ j : Nat, c < j → j < i → n.testBit j = false) : nx n c = (i : Int) := by
  have t1 : (upTo n (c + 1).toNat).testBit i = true := by rw [upTo_test, h1, decide_eq_true (by omega)]; rfl
  unfold nx
  rw [if_neg (by intro e; rw [e] at t1; simp at t1)]
  refine low_eq (upTo_lt hn) t1 fun j hj => ?_
  rw [upTo_test]
  by_cases h : (c + 1).toNat ≤ j
  · rw [h2 j (by omega) hj, Bool.and_false]
  · rw [decide_eq_false h, Bool.false_and]
/-- The least of all, if there is none above. -/
theorem nx_round {n : Nat} (hn : n < 18446744073709551616) {c : Int} {i : Nat} (h1 : n.testBit i = true) (h2 : ∀ j, j < i → n.testBit j = false) (h3 : ∀ j : Nat, c < j → n.testBit j = false) : nx n c = (i : Int) := by
  have e : upTo n (c + 1).toNat = 0 := by
    apply Nat.eq_of_testBit_eq
    intro j
    rw [upTo_test]
    by_cases h : (c + 1).toNat ≤ j
    · rw [h3 j (by omega)]; simp
    · rw [decide_eq_false h]; simp
  unfold nx
  rw [if_pos e, low_eq hn h1 h2]
theorem none_f : turn_None.f = some (-1, 0) := rfl
theorem pick_f (n : Nat) (hn : n < 18446744073709551616) (c l x : Int) (b : Bool) (p : Int) : turn_Turn_Pick.f c l x n b p = some (if b = true then (c, l, false) else if hasN n x = true then ((ofV x p).1, (ofV x p).2, true) else (c, l, false)) := by
  unfold turn_Turn_Pick.f
  cases b
  · rw [if_neg (by simp), has_f n hn, if_neg (by simp)]
    simp only [Option.bind_some]
    cases hasN n x
    · simp
    · simp [of_f]
  · simp
theorem awake_f : paternosterlaw20_awake.f = some true := by
  have s1 : turn_Turn_Step.f (-1) 0 5 false 1 = some (0, 1) := by decide +kernel
  have s2 : turn_Turn_Step.f 0 1 5 false 1 = some (2, 1) := by decide +kernel
  have s3 : turn_Turn_Step.f 2 1 5 false 1 = some (0, 1) := by decide +kernel
  have s4 : turn_Turn_Pick.f 0 1 1 5 false 1 = some (0, 1, false) := by decide +kernel
  unfold paternosterlaw20_awake.f
  rw [none_f]
  simp only [Option.bind_some, s1, s2, s3, s4]
  simp
end Go.Proofs.YtbaklgemdljmeaaDoor.X
