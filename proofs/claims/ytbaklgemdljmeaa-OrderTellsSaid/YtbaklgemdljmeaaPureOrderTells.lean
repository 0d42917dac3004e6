/- OrderTells: of any order, and any bits, who is next, how many are left, and a car's bit, are the document's. No condition. -/
import Derived.Test.YtbaklgemdljmeaaXx9
import Derived.Test.YtbaklgemdljmeaaXx7
import Derived.Test.YtbaklgemdljmeaaOrderPlain
namespace Go.Proofs.Ytbaklgemdljmeaa.Pure
open Go.RowKit Go.Proofs.Ytbaklgemdljmeaa.X Go.Proofs.YtbaklgemdljmeaaW.PrintWords Go.Proofs.YtbaklgemdljmeaaW.PrintLast

theorem awake1 : paternosterlaw19_awake.f = some true := by
  have n1 : ([2, 0, 1] : List Int).filter (comesN 4 0) = [0, 1] := by decide +kernel
  have n2 : ([2, 0, 1] : List Int).filter (comesN 4 1) = [1] := by decide +kernel
  have n3 : ([2, 0, 1] : List Int).filter (comesN 7 0) = [] := by decide +kernel
  have c1 : comes 4 0 = comesN 4 0 := comes_nat 4 0 (by omega) (by omega)
  have c2 : comes 4 1 = comesN 4 1 := comes_nat 4 1 (by omega) (by omega)
  have c3 : comes 7 0 = comesN 7 0 := comes_nat 7 0 (by omega) (by omega)
  have w1 : order_With.f 0 2 = some 4 := with_f 0 (by omega) 2
  unfold paternosterlaw19_awake.f
  simp only [order_Next.f, order_Left.f, nextF, leftF, Option.bind_some, c1, c2, c3, n1, n2, n3, w1]
  simp
theorem rd_get {l : List Int} {i : Int} (h : i.toNat < l.length) : rd l i = l[i.toNat] := by
  unfold rd; rw [List.getD_eq_getElem?_getD, List.getElem?_eq_getElem h]; rfl
/-- What the document's loop tells: the first one, and how many. -/
def rn (first n : Int) (l : List Int) (p : Int → Bool) : Int × Int := (if n = 0 then ((l.filter p).head?).getD first else first, n + (l.filter p).length)
theorem rnext_loop (l : List Int) (hl : l.length ≤ 1000000) (d o : Nat) (hd : d < 18446744073709551616) (ho : o < 18446744073709551616) (m : Nat) : ∀ (k : Nat) (first n i : Int), 0 ≤ i → (l.length : Int) - i = m → 2 * m + 100 < k → 0 ≤ n → n ≤ i →
    paternosterref19_Next.l0 k l d o first n i = some (rn first n (l.drop i.toNat) (comesN d o)) := by
  induction m with
  | zero =>
    intro k first n i h0 hm hk _ _
    obtain ⟨k, rfl⟩ : ∃ m, k = m + 1 := ⟨k - 1, by omega⟩
    simp only [paternosterref19_Next.l0]; rw [if_neg (by omega), List.drop_eq_nil_of_le (by omega)]; simp [rn]
  | succ m ih =>
    intro k first n i h0 hm hk hn0 hni
    obtain ⟨k, rfl⟩ : ∃ m, k = m + 1 := ⟨k - 1, by omega⟩
    obtain ⟨k', rfl⟩ : ∃ m, k = m + 1 := ⟨k - 1, by omega⟩
    have hi : i.toNat < l.length := by omega
    have e : l.drop i.toNat = l[i.toNat] :: l.drop (i + 1).toNat := by rw [List.drop_eq_getElem_cons hi, show (i + 1).toNat = i.toNat + 1 by omega]
    simp only [paternosterref19_Next.l0]
    rw [if_pos (by omega), if_pos h0, rd_get hi, e]
    generalize l[i.toNat] = c
    have hskip : comesN d o c = false → paternosterref19_Next.j1 (k' + 1) l d o first n i c true = some (rn first n (c :: l.drop (i + 1).toNat) (comesN d o)) := by
      intro hc
      simp only [paternosterref19_Next.j1, if_true]
      rw [wrap_in (by omega) (by omega), ih k' first n (i + 1) (by omega) (by omega) (by omega) hn0 (by omega)]
      simp [rn, hc]
    have htake : comesN d o c = true → paternosterref19_Next.j1 (k' + 1) l d o first n i c false = some (rn first n (c :: l.drop (i + 1).toNat) (comesN d o)) := by
      intro hc
      simp only [paternosterref19_Next.j1]
      rw [if_neg (by simp), wrap_in (x := i + 1) (by omega) (by omega), wrap_in (x := n + 1) (by omega) (by omega), ih k' _ (n + 1) (i + 1) (by omega) (by omega) (by omega) (by omega) (by omega), ih k' _ (n + 1) (i + 1) (by omega) (by omega) (by omega) (by omega) (by omega)]
      have h1 : ¬ n + 1 = 0 := by omega
      by_cases hn : n = 0
      · simp [rn, hc, hn]; omega
      · simp [rn, hc, hn, h1]; omega
    by_cases h1 : c < 0
    · rw [if_pos h1]; exact hskip (by simp [comesN]; omega)
    · by_cases h2 : c > 63
      · rw [if_neg h1, if_pos h2]; exact hskip (by simp [comesN]; omega)
      · rw [if_neg h1, if_neg h2, rhas_f d hd c _ (by omega), rhas_f o ho c _ (by omega)]
        have hin : decide (0 ≤ c ∧ c < 64) = true := decide_eq_true (by omega)
        simp only [Option.bind_some, hasN, hin, Bool.true_and]
        cases h3 : d.testBit c.toNat
        · rw [if_neg (by simp)]
          cases h4 : o.testBit c.toNat
          · exact htake (by simp [comesN, h3, h4]; omega)
          · exact hskip (by simp [comesN, h3, h4])
        · rw [if_pos rfl]; exact hskip (by simp [comesN, h3])
theorem rnext_f (l : List Int) (hl : l.length ≤ 200) (d o : Nat) (hd : d < 18446744073709551616) (ho : o < 18446744073709551616) (k : Nat) (hk : 1000 ≤ k) : paternosterref19_Next.f k l d o = some (nextF l d o, leftF l d o) := by
  unfold paternosterref19_Next.f
  rw [rnext_loop l (by omega) d o hd ho l.length k (-1) 0 0 (by omega) (by omega) (by omega) (by omega) (by omega)]
  simp [rn, nextF, leftF, comes_nat d o hd ho]
/-- A number, parted at a bit. -/
theorem parted (n i : Nat) : n = 2 ^ (i + 1) * (n / 2 ^ (i + 1)) + (2 ^ i * (n.testBit i).toNat + n % 2 ^ i) := by
  have h1 := Nat.div_add_mod n (2 ^ (i + 1))
  have h2 := Nat.mod_pow_succ (b := 2) (k := i) (x := n)
  have h3 : n / 2 ^ i % 2 = (n.testBit i).toNat := by
    rw [Nat.testBit_eq_decide_div_mod_eq]
    by_cases h : n / 2 ^ i % 2 = 1
    · rw [decide_eq_true h, h]; rfl
    · rw [decide_eq_false h]; simp; omega
  rw [h3] at h2
  omega
theorem add_or (n i : Nat) (h : n.testBit i = false) : n + 2 ^ i = n ||| 2 ^ i := by
  have hp := parted n i
  rw [h] at hp
  simp only [Bool.toNat_false, Nat.mul_zero, Nat.zero_add] at hp
  have hr : n % 2 ^ i < 2 ^ i := Nat.mod_lt _ (Nat.two_pow_pos _)
  generalize n / 2 ^ (i + 1) = q at hp
  generalize n % 2 ^ i = r at hp hr
  have h2 : (2 : Nat) ^ (i + 1) = 2 ^ i * 2 := Nat.pow_succ _ _
  have e1 : 2 ^ (i + 1) * q + r = 2 ^ (i + 1) * q ||| r := Nat.two_pow_add_eq_or_of_lt (by omega) q
  have e2 : 2 ^ i * 1 + r = 2 ^ i * 1 ||| r := Nat.two_pow_add_eq_or_of_lt hr 1
  have e3 : 2 ^ (i + 1) * q + (2 ^ i * 1 + r) = 2 ^ (i + 1) * q ||| (2 ^ i * 1 + r) := Nat.two_pow_add_eq_or_of_lt (by omega) q
  rw [Nat.mul_one] at e2 e3
  rw [hp, e1, Nat.or_assoc, Nat.or_comm r, ← e2, ← e3, ← e1]; omega
theorem sub_clr (n i : Nat) (hn : n < 18446744073709551616) (hi : i < 64) (h : n.testBit i = true) : n - 2 ^ i = clr n (2 ^ i) ∧ 2 ^ i ≤ n := by
  have hp := parted n i
  rw [h] at hp
  simp only [Bool.toNat_true, Nat.mul_one] at hp
  have hr : n % 2 ^ i < 2 ^ i := Nat.mod_lt _ (Nat.two_pow_pos _)
  generalize n / 2 ^ (i + 1) = q at hp
  generalize n % 2 ^ i = r at hp hr
  have h2 : (2 : Nat) ^ (i + 1) = 2 ^ i * 2 := Nat.pow_succ _ _
  obtain ⟨p, hpd⟩ : ∃ p, p = 2 ^ (i + 1) * q + r := ⟨_, rfl⟩
  have hpn : n = p + 2 ^ i := by omega
  have hbit : p.testBit i = false := by
    rw [hpd, Nat.testBit_two_pow_mul_add q (by omega : r < 2 ^ (i + 1)), if_pos (by omega)]
    exact Nat.testBit_lt_two_pow hr
  refine ⟨?_, by omega⟩
  rw [show n - 2 ^ i = p by omega]
  apply Nat.eq_of_testBit_eq
  intro j
  rw [clr_test hn (pow_lt hi), hpn, add_or p i hbit, Nat.testBit_or, Nat.testBit_two_pow]
  by_cases hj : i = j
  · subst hj; rw [hbit]; simp
  · simp [hj]
theorem OrderTells : paternosterlaw19_OrderTells.Pure := by
  intro l a1 a2 c _ _ _ h1 h2 hc
  obtain ⟨d, rfl, hd⟩ := u64_nat h1
  obtain ⟨o, rfl, ho⟩ := u64_nat h2
  refine ⟨1001, ?_⟩
  unfold paternosterlaw19_OrderTells.f
  rw [awake1]
  simp only [Option.bind_some, if_true]
  by_cases hl : (l.length : Int) > 200
  · rw [if_pos hl]
  · rw [if_neg hl, rnext_f l (by omega) d o hd ho _ (by omega), rhas_f d hd c _ (by omega), rone_f c _ (by omega)]
    simp only [Option.bind_some, paternosterlaw19_OrderTells.j0, has_f d hd, with_f d hd, without_f d hd, order_Next.f, order_Left.f]
    have hb := bitN_lt c
    by_cases hin : 0 ≤ c ∧ c < 64
    · have eb : bitN c = 2 ^ c.toNat := by unfold bitN; rw [if_pos hin]
      cases ht : d.testBit c.toNat
      · have e : hasN d c = false := by simp [hasN, ht]
        have e3 : clr d (bitN c) = d := by
          apply Nat.eq_of_testBit_eq; intro j; rw [clr_test hd hb, bitN_test]
          by_cases hj : c.toNat = j
          · subst hj; simp [ht]
          · simp [hj]
        have hw : IntKind.u64.wrap ((d : Int) + ((bitN c : Nat) : Int)) = ((d ||| bitN c : Nat) : Int) := by
          have e4 := or_lt hd hb
          rw [← Int.natCast_add, eb, add_or d c.toNat ht, IntKind.wrap_u64]
          rw [eb] at e4
          omega
        rw [e, e3, hw]
        simp
      · have e : hasN d c = true := by simp [hasN, ht]; omega
        obtain ⟨e2, e5⟩ := sub_clr d c.toNat hd (by omega) ht
        have e3 : d ||| bitN c = d := by
          apply Nat.eq_of_testBit_eq; intro j; rw [Nat.testBit_or, bitN_test]
          by_cases hj : c.toNat = j
          · subst hj; simp [ht]
          · simp [hj]
        have hw : IntKind.u64.wrap ((d : Int) - ((bitN c : Nat) : Int)) = ((clr d (bitN c) : Nat) : Int) := by
          have e6 : clr d (bitN c) < 18446744073709551616 := clr_lt hd
          rw [eb] at e6 ⊢
          rw [← Int.natCast_sub e5, e2, IntKind.wrap_u64]
          omega
        rw [e, e3, hw]
        simp
    · have eb : bitN c = 0 := by unfold bitN; rw [if_neg hin]
      have e : hasN d c = false := by simp only [hasN, decide_eq_false hin, Bool.false_and]
      have e3 : clr d 0 = d := by
        apply Nat.eq_of_testBit_eq; intro j; rw [clr_test hd (by omega)]; simp
      have hw : IntKind.u64.wrap ((d : Int) + ((0 : Nat) : Int)) = (d : Int) := by rw [IntKind.wrap_u64]; omega
      rw [e, eb, e3, hw]
      simp
end Go.Proofs.Ytbaklgemdljmeaa.Pure
