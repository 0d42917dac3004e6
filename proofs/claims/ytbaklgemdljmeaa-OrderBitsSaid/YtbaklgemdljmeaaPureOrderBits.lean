/- OrderBits: a car's bit that is set is there, and all others are as they were; taken away it isn't. No condition. -/
import Derived.Test.YtbaklgemdljmeaaXx10
import Derived.Test.YtbaklgemdljmeaaOrderPlain
namespace Go.Proofs.Ytbaklgemdljmeaa.Pure
open Go.RowKit Go.Proofs.Ytbaklgemdljmeaa.X Go.Proofs.YtbaklgemdljmeaaW.PrintWords Go.Proofs.YtbaklgemdljmeaaW.PrintLast

theorem awake1 : paternosterlaw19_awake.f = some true := by
  have n1 : ([2, 0, 1] : List Int).filter (comesN 4 0) = [0, 1] := by decide +kernel
  have n2 : ([2, 0, 1] : List Int).filter (comesN 4 1) = [1] := by decide +kernel
  have n3 : ([2, 0, 1] : List Int).filter (comesN 7 0) = [] := by decide +kernel
  have c1 : comes 4 0 = comesN 4 0 := comes_nat 4 0 (by omega) (by omega)
  have c2 : comes 4 1 = comesN 4 1 := comes_nat 4 1 (by omega) (by omega)
  have c3 : comes 7 0 = comesN 7 0 := comes_nat 7 0 (by omega) (by omega)
  have w1 : order_With.f 0 2 = some 4 := with_f 0 (by omega) 2
  unfold paternosterlaw19_awake.f
  simp only [order_Next.f, order_Left.f, nextF, leftF, Option.bind_some, c1, c2, c3, n1, n2, n3, w1]
  simp
theorem bit_ext {a b : Nat} (h : ∀ i, a.testBit i = b.testBit i) : ((a : Nat) : Int) = ((b : Nat) : Int) := by rw [Nat.eq_of_testBit_eq h]
theorem OrderBits : paternosterlaw19_OrderBits.Pure := by
  intro a0 c e h1 _ _
  obtain ⟨n, rfl, hn⟩ := u64_nat h1
  refine ⟨5, ?_⟩
  have hb := bitN_lt c
  obtain ⟨m, hm⟩ : ∃ m, bitN c = m := ⟨_, rfl⟩
  have hbt : ∀ i, m.testBit i = (decide (0 ≤ c ∧ c < 64) && decide (c.toNat = i)) := fun i => by rw [← hm]; exact bitN_test c i
  rw [hm] at hb
  have hA := or_lt hn hb
  have hB : clr n m < 18446744073709551616 := clr_lt hn
  have tA : ∀ i, (n ||| m).testBit i = (n.testBit i || m.testBit i) := fun i => Nat.testBit_or _ _ _
  have tB : ∀ i, (clr n m).testBit i = (n.testBit i && !m.testBit i) := clr_test hn hb
  have eA : (clr n m ||| m) = (n ||| m) := Nat.eq_of_testBit_eq fun i => by rw [Nat.testBit_or, tA, tB]; cases n.testBit i <;> cases m.testBit i <;> rfl
  have eB : clr (n ||| m) m = clr n m := Nat.eq_of_testBit_eq fun i => by rw [clr_test hA hb, tA, tB]; cases n.testBit i <;> cases m.testBit i <;> rfl
  have eAA : ((n ||| m) ||| m) = (n ||| m) := by rw [Nat.or_assoc, Nat.or_self]
  have eBB : clr (clr n m) m = clr n m := Nat.eq_of_testBit_eq fun i => by rw [clr_test hB hb, tB]; cases n.testBit i <;> cases m.testBit i <;> rfl
  have hasA : hasN (n ||| m) c = decide (0 ≤ c ∧ c < 64) := by
    unfold hasN; rw [tA, hbt]; by_cases h : 0 ≤ c ∧ c < 64 <;> simp [h]
  have hasB : hasN (clr n m) c = false := by
    unfold hasN; rw [tB, hbt]; by_cases h : 0 ≤ c ∧ c < 64 <;> simp [h]
  have hother : e ≠ c → hasN (n ||| m) e = hasN n e ∧ hasN (clr n m) e = hasN n e := by
    intro he
    unfold hasN
    by_cases h : 0 ≤ e ∧ e < 64
    · have h2 : m.testBit e.toNat = false := by
        rw [hbt]
        by_cases hc : 0 ≤ c ∧ c < 64
        · rw [decide_eq_true hc, decide_eq_false (by omega)]; rfl
        · rw [decide_eq_false hc]; rfl
      rw [tA, tB, h2]; simp
    · rw [decide_eq_false h]; exact ⟨rfl, rfl⟩
  have hor : (n ||| m) = n ∨ clr n m = n := by
    by_cases h : 0 ≤ c ∧ c < 64
    · cases ht : n.testBit c.toNat
      · refine .inr (Nat.eq_of_testBit_eq fun i => ?_)
        rw [tB, hbt, decide_eq_true h]
        by_cases hi : c.toNat = i
        · subst hi; rw [ht]; rfl
        · rw [decide_eq_false hi]; simp
      · refine .inl (Nat.eq_of_testBit_eq fun i => ?_)
        rw [tA, hbt, decide_eq_true h]
        by_cases hi : c.toNat = i
        · subst hi; rw [ht]; rfl
        · rw [decide_eq_false hi]; simp
    · refine .inl (Nat.eq_of_testBit_eq fun i => ?_)
      rw [tA, hbt, decide_eq_false h]; simp
  have j2 : ∀ k, paternosterlaw19_OrderBits.j2 (k + 1) n c ((n ||| m : Nat) : Int) ((clr n m : Nat) : Int) false = some true := by
    intro k
    simp only [paternosterlaw19_OrderBits.j2]
    rw [if_neg (by simp), with_f _ hA, without_f _ hB, hm, eAA, eBB]
    simp only [Option.bind_some, if_true]
    rcases hor with h | h
    · rw [h, if_pos rfl]
    · rw [h]; simp
  have j1 : ∀ k, paternosterlaw19_OrderBits.j1 (k + 2) n c e ((n ||| m : Nat) : Int) ((clr n m : Nat) : Int) false = some true := by
    intro k
    simp only [paternosterlaw19_OrderBits.j1]
    rw [if_neg (by simp)]
    by_cases he : e = c
    · rw [if_pos he]; exact j2 k
    · rw [if_neg he, has_f _ hA, has_f _ hn, has_f _ hB, (hother he).1, (hother he).2]
      simp only [Option.bind_some, bne_self_eq_false]
      rw [if_neg (by simp)]
      exact j2 k
  have j0 : ∀ k b, b = decide (0 ≤ c ∧ c < 64) → paternosterlaw19_OrderBits.j0 (k + 3) n c e ((n ||| m : Nat) : Int) ((clr n m : Nat) : Int) b = some true := by
    intro k b hbb
    simp only [paternosterlaw19_OrderBits.j0]
    rw [has_f _ hA, has_f _ hB, with_f _ hB, without_f _ hA, hm, hasA, hasB, eA, eB, hbb]
    simp only [Option.bind_some, bne_self_eq_false, if_true]
    rw [if_neg (by simp), if_neg (by simp)]
    exact j1 k
  unfold paternosterlaw19_OrderBits.f
  rw [awake1, with_f n hn, without_f n hn, hm]
  simp only [Option.bind_some, if_true]
  by_cases h0 : c ≥ 0
  · rw [if_pos h0]; exact j0 2 _ (by rw [decide_eq_decide]; omega)
  · rw [if_neg h0]; exact j0 2 _ (by rw [eq_comm, decide_eq_false_iff_not]; omega)
end Go.Proofs.Ytbaklgemdljmeaa.Pure
