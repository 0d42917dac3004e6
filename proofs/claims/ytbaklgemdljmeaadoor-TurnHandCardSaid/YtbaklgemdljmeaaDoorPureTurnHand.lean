/- TurnHand: who was chosen by hand serves for a whole period, as long as they are ready, and longer while they are busy. No condition. -/
import Derived.Test.YtbaklgemdljmeaaDoorPsTurnHand
import Derived.Test.YtbaklgemdljmeaaDoorTurnPlain
namespace Go.Proofs.YtbaklgemdljmeaaDoor.Pure
open Go.RowKit Go.Proofs.YtbaklgemdljmeaaDoor.X Go.Proofs.YtbaklgemdljmeaaDoorW.PrintWords

theorem behind {n i : Nat} (hn : n < 18446744073709551616) (hi : i < 64) (h : n.testBit i = true) : nx n (i : Int) ≠ (i : Int) ∨ clr n (bitN (i : Int)) = 0 := by
  by_cases hz : clr n (bitN (i : Int)) = 0
  · exact .inr hz
  · left
    intro he
    have hb : ∀ j, (bitN (i : Int)).testBit j = decide (i = j) := fun j => by
      rw [bitN_test, decide_eq_true (by omega), Bool.true_and, show (i : Int).toNat = i by omega]
    have hc : ∀ j, (clr n (bitN (i : Int))).testBit j = (n.testBit j && !decide (i = j)) := fun j => by rw [clr_test hn (bitN_lt _), hb]
    by_cases hu : upTo n (i + 1) = 0
    · -- none above: the lowest one is below i
      have h0 : n ≠ 0 := by intro e; subst e; simp at h
      obtain ⟨k, e, hk, h3, h4⟩ := low_spec n h0 hn
      have hnx : nx n (i : Int) = (k : Int) := by unfold nx; rw [show ((i : Int) + 1).toNat = i + 1 by omega, if_pos hu, e]
      have hki : k = i := by omega
      subst hki
      apply hz
      apply Nat.eq_of_testBit_eq
      intro j
      rw [hc, Nat.zero_testBit]
      rcases Nat.lt_trichotomy j k with hj | hj | hj
      · rw [h4 j hj]; rfl
      · subst hj; simp
      · have := upTo_test n (k + 1) j
        rw [hu, Nat.zero_testBit, decide_eq_true (show k + 1 ≤ j by omega), Bool.true_and] at this
        rw [← this]; rfl
    · obtain ⟨k, e, hk, h3, h4⟩ := low_spec _ hu (upTo_lt hn)
      have hnx : nx n (i : Int) = (k : Int) := by unfold nx; rw [show ((i : Int) + 1).toNat = i + 1 by omega, if_neg hu, e]
      rw [upTo_test, Bool.and_eq_true, decide_eq_true_eq] at h3
      omega
theorem rounds (n i : Nat) (hn : n < 18446744073709551616) (hi : i < 64) (hb : n.testBit i = true) (l : List Bool) (hl : l.length ≤ 100) (p : Int) (hp0 : 1 ≤ p) (hp1 : p ≤ 20) (d : Nat) : ∀ (k : Nat) (idle x : Int), 0 ≤ x → x + d = l.length → 0 ≤ idle → idle < p → 3 * d < k →
    paternosterlaw20_TurnHand.l0 k n l i p idle x i (p - idle) = some true := by
  induction d with
  | zero =>
    intro k idle x h0 hd _ _ hk
    obtain ⟨k, rfl⟩ : ∃ m, k = m + 1 := ⟨k - 1, by omega⟩
    simp only [paternosterlaw20_TurnHand.l0]; rw [if_neg (by omega)]
  | succ d ih =>
    intro k idle x h0 hd h1 h2 hk
    obtain ⟨k, rfl⟩ : ∃ m, k = m + 1 + 1 + 1 := ⟨k - 3, by omega⟩
    have hs := step_f n hn i (p - idle) (rdOf false l x) p (by omega) (by omega)
    have hh := hasN_of hi hb
    generalize hbz : rdOf false l x = bz at hs
    cases bz
    · -- not busy
      have hw : wrap64 (p - idle - 1) = p - idle - 1 := wrap_in (by omega) (by omega)
      by_cases c : p - idle - 1 < 1
      · have hst : stepV n i (p - idle) false p = (nx n i, p) := by
          unfold stepV; rw [if_pos hh, if_neg (by simp), hw, if_pos c]
          obtain ⟨j, e, _⟩ := nx_ready hn (show n ≠ 0 by intro e; subst e; simp at hb) i
          unfold ofV; rw [e, if_neg (by omega)]; simp [mx]; omega
        obtain ⟨j, e, hj, hjb⟩ := nx_ready hn (show n ≠ 0 by intro e; subst e; simp at hb) (i : Int)
        simp only [paternosterlaw20_TurnHand.l0]
        rw [if_pos (by omega), if_pos h0, hbz, hs, hst]
        simp only [Option.bind_some, Bool.false_eq_true, if_false]
        rw [wrap_in (x := idle + 1) (by omega) (by omega)]
        simp only [paternosterlaw20_TurnHand.j3]
        rw [if_neg (by omega)]
        simp only [paternosterlaw20_TurnHand.j4, Bool.false_eq_true, if_false]
        rw [if_pos (by omega), has_f n hn, without_f n hn]
        simp only [Option.bind_some]
        have hj2 : hasN n (nx n i) = true := by rw [e]; exact hasN_of hj hjb
        rw [if_pos hj2]
        rcases behind hn hi hb with h | h
        · rw [if_neg h]
        · rw [h]; simp
      · have hst : stepV n i (p - idle) false p = ((i : Int), p - (idle + 1)) := by
          unfold stepV; rw [if_pos hh, if_neg (by simp), hw, if_neg c]; congr 1; omega
        simp only [paternosterlaw20_TurnHand.l0]
        rw [if_pos (by omega), if_pos h0, hbz, hs, hst]
        simp only [Option.bind_some, Bool.false_eq_true, if_false]
        rw [wrap_in (x := idle + 1) (by omega) (by omega)]
        simp only [paternosterlaw20_TurnHand.j3]
        rw [if_pos (by omega), if_pos trivial, wrap_in (x := p - (idle + 1)) (by omega) (by omega), bne_self_eq_false]
        simp only [paternosterlaw20_TurnHand.j4, Bool.false_eq_true, if_false]
        rw [if_neg (by omega), wrap_in (x := x + 1) (by omega) (by omega)]
        exact ih k (idle + 1) (x + 1) (by omega) (by omega) (by omega) (by omega) (by omega)
    · have hst : stepV n i (p - idle) true p = ((i : Int), p - idle) := by
        unfold stepV; rw [if_pos hh, if_pos rfl]
      simp only [paternosterlaw20_TurnHand.l0]
      rw [if_pos (by omega), if_pos h0, hbz, hs, hst]
      simp only [Option.bind_some, if_true]
      simp only [paternosterlaw20_TurnHand.j3]
      rw [if_pos (by omega), if_pos trivial, wrap_in (x := p - idle) (by omega) (by omega), bne_self_eq_false]
      simp only [paternosterlaw20_TurnHand.j4, Bool.false_eq_true, if_false]
      rw [if_neg (by omega), wrap_in (x := x + 1) (by omega) (by omega)]
      exact ih k idle (x + 1) (by omega) (by omega) (by omega) (by omega) (by omega)
theorem TurnHand : paternosterlaw20_TurnHand.PureS := by
  intro a0 a1 a2 l w0 w1 w2 _
  obtain ⟨n, rfl, hn⟩ := u64_nat w0
  have b1 := bounds_u8 w1
  have b2 := bounds_u8 w2
  refine ⟨400 + 1 + 1, ?_⟩
  have e1 : wrap64 (Int.tmod a1 64) = ((a1.toNat % 64 : Nat) : Int) := by
    rw [Int.tmod_eq_emod_of_nonneg (by omega), wrap_in (by omega) (by omega)]; omega
  have e2 : ∃ p : Int, wrap64 ((wrap64 (Int.tmod a2 20)) + 1) = p ∧ 1 ≤ p ∧ p ≤ 20 := by
    rw [Int.tmod_eq_emod_of_nonneg (by omega), wrap_in (x := a2 % 20) (by omega) (by omega), wrap_in (by omega) (by omega)]
    exact ⟨_, rfl, by omega, by omega⟩
  obtain ⟨p, hp, hp0, hp1⟩ := e2
  obtain ⟨i, hi, hi64⟩ : ∃ i, a1.toNat % 64 = i ∧ i < 64 := ⟨_, rfl, by omega⟩
  unfold paternosterlaw20_TurnHand.f
  rw [awake_f, e1, hp, hi]
  simp only [Option.bind_some, if_true]
  by_cases c1 : (l.length : Int) > 100
  · rw [if_pos c1]; simp only [paternosterlaw20_TurnHand.j0]; rw [if_pos trivial]
  · rw [if_neg c1, has_f n hn]
    simp only [Option.bind_some]
    have hh : hasN n (i : Int) = n.testBit i := by unfold hasN; rw [decide_eq_true (by omega)]; simp
    simp only [paternosterlaw20_TurnHand.j0]
    cases hb : hasN n (i : Int)
    · rw [if_pos (show (!false) = true from rfl)]
    · rw [if_neg (by simp), none_f]
      simp only [Option.bind_some]
      rw [pick_f n hn, if_neg (by simp), if_pos hb]
      have ho : ofV (i : Int) p = ((i : Int), p) := by unfold ofV; rw [if_neg (by omega)]; simp [mx]; omega
      simp only [Option.bind_some, ho, if_true, bne_self_eq_false]
      simp only [paternosterlaw20_TurnHand.j1, Bool.false_eq_true, if_false]
      have := rounds n i hn hi64 (by rw [← hh, hb]) l (by omega) p hp0 hp1 l.length 400 0 0 (by omega) (by omega) (by omega) (by omega) (by omega)
      rw [Int.sub_zero] at this
      exact this
end Go.Proofs.YtbaklgemdljmeaaDoor.Pure
