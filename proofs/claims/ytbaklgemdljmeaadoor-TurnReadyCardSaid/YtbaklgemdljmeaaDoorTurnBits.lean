/- Plain facts on bits (turned from seat order's OrderPlain). -/
import Derived.Test.YtbaklgemdljmeaaDoorXx2
import Derived.Test.YtbaklgemdljmeaaDoorXx4
import Derived.Test.YtbaklgemdljmeaaDoorXx2
import Derived.Test.YtbaklgemdljmeaaDoorXx6
import Derived.OpenShut
import Derived.Laws.Bits64b
namespace Go.Proofs.YtbaklgemdljmeaaDoor.X
open Go.RowKit Go.Proofs.YtbaklgemdljmeaaDoorW.PrintWords

/-- A car's bit; 0: it has none. -/
def carBit (c : Int) : Int := if c < 0 then 0 else if 64 ≤ c then 0 else 2 ^ c.toNat
def carHas (b c : Int) : Bool := bits .and .u64 b (carBit c) != 0
theorem pow_u64 {c : Int} (h1 : 0 ≤ c) (h2 : c < 64) : IntKind.u64.wrap (2 ^ c.toNat) = 2 ^ c.toNat := by
  have h : (2 : Nat) ^ c.toNat ≤ 2 ^ 63 := Nat.pow_le_pow_right (by omega) (by omega)
  have e : ((2 : Int) ^ c.toNat) = ((2 ^ c.toNat : Nat) : Int) := by simp
  rw [IntKind.wrap_u64, e]
  generalize (2 : Nat) ^ c.toNat = m at h
  simp at h
  omega
theorem wrap_in {x : Int} (h0 : -9223372036854775808 ≤ x) (h1 : x ≤ 9223372036854775807) : wrap64 x = x := by unfold wrap64; omega
/-- A car's bit as a natural number. -/
def bitN (c : Int) : Nat := if 0 ≤ c ∧ c < 64 then 2 ^ c.toNat else 0
theorem pow_lt {i : Nat} (h : i < 64) : 2 ^ i < 18446744073709551616 := by
  have h : (2 : Nat) ^ i ≤ 2 ^ 63 := Nat.pow_le_pow_right (by omega) (by omega)
  simp at h; omega
theorem bitN_lt (c : Int) : bitN c < 18446744073709551616 := by
  unfold bitN; split
  · exact pow_lt (by omega)
  · omega
theorem carBit_nat (c : Int) : carBit c = ((bitN c : Nat) : Int) := by
  unfold carBit bitN
  by_cases h0 : c < 0
  · rw [if_pos h0, if_neg (by omega)]; rfl
  · by_cases h1 : 64 ≤ c
    · rw [if_neg h0, if_pos h1, if_neg (by omega)]; rfl
    · rw [if_neg h0, if_neg h1, if_pos (by omega)]; simp
theorem bitN_test (c : Int) (i : Nat) : (bitN c).testBit i = (decide (0 ≤ c ∧ c < 64) && decide (c.toNat = i)) := by
  unfold bitN
  by_cases h : 0 ≤ c ∧ c < 64
  · rw [if_pos h, Nat.testBit_two_pow, decide_eq_true h]; simp
  · rw [if_neg h, decide_eq_false h]; simp
theorem and_pow (n i : Nat) : n &&& 2 ^ i = if n.testBit i then 2 ^ i else 0 := by
  apply Nat.eq_of_testBit_eq
  intro j
  rw [Nat.testBit_and, Nat.testBit_two_pow]
  by_cases h : i = j
  · subst h; cases hn : n.testBit i <;> simp
  · simp only [h, decide_false, Bool.and_false]
    split
    · rw [Nat.testBit_two_pow, decide_eq_false h]
    · simp
/-- Is a car among bits? -/
def hasN (n : Nat) (c : Int) : Bool := decide (0 ≤ c ∧ c < 64) && n.testBit c.toNat
theorem carHas_nat (n : Nat) (hn : n < 18446744073709551616) (c : Int) : carHas (n : Int) c = hasN n c := by
  unfold carHas hasN
  rw [carBit_nat, bits_and_u64_nat n (bitN c) hn (bitN_lt c)]
  unfold bitN
  by_cases h : 0 ≤ c ∧ c < 64
  · rw [if_pos h, and_pow, decide_eq_true h]
    have hp : 0 < 2 ^ c.toNat := Nat.two_pow_pos _
    cases n.testBit c.toNat
    · simp
    · have hp2 : ((2 ^ c.toNat : Nat) : Int) ≠ 0 := by omega
      simp only [if_true, Bool.and_self]
      exact bne_iff_ne.2 hp2
  · rw [if_neg h, decide_eq_false h]; simp
def clr (n m : Nat) : Nat := n &&& (18446744073709551615 - m)
theorem clr_test {n m : Nat} (hn : n < 18446744073709551616) (hm : m < 18446744073709551616) (i : Nat) : (clr n m).testBit i = (n.testBit i && !m.testBit i) := by
  unfold clr
  rw [Nat.testBit_and]
  by_cases hi : i < 64
  · have := Nat.testBit_two_pow_sub_succ (n := 64) (x := m) (by simpa using hm) i
    rw [show (2 : Nat) ^ 64 - (m + 1) = 18446744073709551615 - m by simp] at this
    rw [this, decide_eq_true hi, Bool.true_and]
  · have : n.testBit i = false := Nat.testBit_lt_two_pow (Nat.lt_of_lt_of_le hn (by have h : (2 : Nat) ^ 64 ≤ 2 ^ i := Nat.pow_le_pow_right (by omega) (by omega); simpa using h))
    rw [this]; rfl
theorem clr_lt {n m : Nat} (hn : n < 18446744073709551616) : clr n m < 18446744073709551616 := Nat.lt_of_le_of_lt Nat.and_le_left hn
theorem or_lt {n m : Nat} (hn : n < 18446744073709551616) (hm : m < 18446744073709551616) : n ||| m < 18446744073709551616 := by
  have := Nat.or_lt_two_pow (n := 64) (x := n) (y := m) (by simpa using hn) (by simpa using hm)
  simpa using this
theorem andNot_nat (a b : Nat) (ha : a < 18446744073709551616) (hb : b < 18446744073709551616) : bits .andNot .u64 (a : Int) (b : Int) = ((clr a b : Nat) : Int) := by
  have h1 : (BitVec.ofInt 64 (a : Int)).toNat = a := by
    rw [BitVec.ofInt_natCast, BitVec.toNat_ofNat]; exact Nat.mod_eq_of_lt (by omega)
  have h2 : (BitVec.ofInt 64 (b : Int)).toNat = b := by
    rw [BitVec.ofInt_natCast, BitVec.toNat_ofNat]; exact Nat.mod_eq_of_lt (by omega)
  show IntKind.u64.wrap ((BitVec.ofInt 64 (a : Int) &&& ~~~ BitVec.ofInt 64 (b : Int)).toNat : Int) = _
  rw [BitVec.toNat_and, BitVec.toNat_not, h1, h2, IntKind.wrap_u64]
  have hx := clr_lt (m := b) ha
  unfold clr at *
  simp only [show (2 : Nat) ^ 64 - 1 - b = 18446744073709551615 - b by simp]
  omega
theorem bit_f (c : Int) : order_bit.f c = some (carBit c) := by
  unfold order_bit.f
  by_cases h0 : c < 0
  · have e : carBit c = 0 := by unfold carBit; rw [if_pos h0]
    rw [e, if_pos h0]
  · by_cases h1 : c ≥ 64
    · have e : carBit c = 0 := by unfold carBit; rw [if_neg h0, if_pos h1]
      rw [e, if_neg h0, if_pos h1]
    · have e : carBit c = 2 ^ c.toNat := by unfold carBit; rw [if_neg h0, if_neg h1]
      rw [e, if_neg h0, if_neg h1, if_pos (by omega)]
      congr 1
      unfold shl
      rw [Nat.min_eq_left (by simp [IntKind.bits]; omega), Int.one_mul]
      exact pow_u64 (by omega) (by omega)
theorem has_f (n : Nat) (hn : n < 18446744073709551616) (c : Int) : order_Has.f (n : Int) c = some (hasN n c) := by
  rw [← carHas_nat n hn]; unfold order_Has.f; rw [bit_f]; rfl
theorem without_f (n : Nat) (hn : n < 18446744073709551616) (c : Int) : order_Without.f (n : Int) c = some ((clr n (bitN c) : Nat) : Int) := by
  unfold order_Without.f; rw [bit_f, carBit_nat]; simp only [Option.bind_some]; rw [andNot_nat n _ hn (bitN_lt c)]
theorem u64_nat {a : Int} (h : (Lit.int .u64 a).wf = true) : ∃ n : Nat, a = (n : Int) ∧ n < 18446744073709551616 := by
  have := bounds_u64 h
  exact ⟨a.toNat, by omega, by omega⟩
/-! ### the document's loops -/
theorem rhas_loop (n : Nat) (hn : n < 18446744073709551616) (c : Int) (hc : 0 ≤ c ∧ c < 64) (d : Nat) : ∀ (k : Nat) (i : Int), 0 ≤ i → c - i = d → d < k →
    paternosterref19_Has.l0 k ((n / 2 ^ i.toNat : Nat) : Int) c i = some (n.testBit c.toNat) := by
  induction d with
  | zero =>
    intro k i h0 hd hk
    obtain ⟨k, rfl⟩ : ∃ m, k = m + 1 := ⟨k - 1, by omega⟩
    obtain rfl : i = c := by omega
    simp only [paternosterref19_Has.l0]; rw [if_neg (by omega), Int.tmod_eq_emod_of_nonneg (Int.natCast_nonneg _), Nat.testBit_eq_decide_div_mod_eq]
    congr 1
    generalize n / 2 ^ i.toNat = m
    rw [Bool.eq_iff_iff, beq_iff_eq, decide_eq_true_eq]; omega
  | succ d ih =>
    intro k i h0 hd hk
    obtain ⟨k, rfl⟩ : ∃ m, k = m + 1 := ⟨k - 1, by omega⟩
    have e : n / 2 ^ (i + 1).toNat = n / 2 ^ i.toNat / 2 := by rw [show (i + 1).toNat = i.toNat + 1 by omega, Nat.pow_succ, Nat.div_div_eq_div_mul]
    have hle : n / 2 ^ i.toNat ≤ n := Nat.div_le_self _ _
    have := ih k (i + 1) (by omega) (by omega) (by omega)
    rw [e] at this
    simp only [paternosterref19_Has.l0]
    rw [if_pos (by omega), wrap_in (x := i + 1) (by omega) (by omega), Int.tdiv_eq_ediv_of_nonneg (Int.natCast_nonneg _), IntKind.wrap_u64]
    generalize n / 2 ^ i.toNat = m at *
    rw [show ((m : Int) / 2) % 18446744073709551616 = ((m / 2 : Nat) : Int) by omega]
    exact this
theorem rhas_f (n : Nat) (hn : n < 18446744073709551616) (c : Int) (k : Nat) (hk : 66 < k) : paternosterref19_Has.f k (n : Int) c = some (hasN n c) := by
  obtain ⟨k, rfl⟩ : ∃ m, k = m + 1 := ⟨k - 1, by omega⟩
  unfold paternosterref19_Has.f hasN
  by_cases h0 : c < 0
  · rw [if_pos h0]; simp only [paternosterref19_Has.j0]; simp; omega
  · rw [if_neg h0]; simp only [paternosterref19_Has.j0]
    by_cases h1 : c > 63
    · rw [if_pos (by simpa using h1)]; simp; omega
    · rw [if_neg (by simpa using h1), decide_eq_true (by omega), Bool.true_and]
      have := rhas_loop n hn c (by omega) c.toNat k 0 (by omega) (by omega) (by omega)
      simpa using this
end Go.Proofs.YtbaklgemdljmeaaDoor.X
