/- OrderAll: done car by car, all that aren't out are next once, in order, and then there is none. No condition. -/
import Derived.Test.YtbaklgemdljmeaaXx4
import Derived.Test.YtbaklgemdljmeaaOrderPlain
namespace Go.Proofs.Ytbaklgemdljmeaa.Pure
open Go.RowKit Go.Proofs.Ytbaklgemdljmeaa.X Go.Proofs.YtbaklgemdljmeaaW.PrintWords Go.Proofs.YtbaklgemdljmeaaW.PrintLast

theorem awake1 : paternosterlaw19_awake.f = some true := by
  have n1 : ([2, 0, 1] : List Int).filter (comesN 4 0) = [0, 1] := by decide +kernel
  have n2 : ([2, 0, 1] : List Int).filter (comesN 4 1) = [1] := by decide +kernel
  have n3 : ([2, 0, 1] : List Int).filter (comesN 7 0) = [] := by decide +kernel
  have c1 : comes 4 0 = comesN 4 0 := comes_nat 4 0 (by omega) (by omega)
  have c2 : comes 4 1 = comesN 4 1 := comes_nat 4 1 (by omega) (by omega)
  have c3 : comes 7 0 = comesN 7 0 := comes_nat 7 0 (by omega) (by omega)
  have w1 : order_With.f 0 2 = some 4 := with_f 0 (by omega) 2
  unfold paternosterlaw19_awake.f
  simp only [order_Next.f, order_Left.f, nextF, leftF, Option.bind_some, c1, c2, c3, n1, n2, n3, w1]
  simp
theorem rd_get {l : List Int} {i : Int} (h : i.toNat < l.length) : rd l i = l[i.toNat] := by
  unfold rd; rw [List.getD_eq_getElem?_getD, List.getElem?_eq_getElem h]; rfl
/-- May a car come at all? -/
def good (o : Nat) (c : Int) : Bool := decide (0 ≤ c ∧ c < 64) && !o.testBit c.toNat
/-- Of the first j cars those that come, each once. -/
def want (o : Nat) (l : List Int) : Nat → List Int
  | 0 => []
  | j + 1 => if good o (l.getD j 0) && !(l.take j).contains (l.getD j 0) then want o l j ++ [l.getD j 0] else want o l j
theorem take_succ_getD (l : List Int) {j : Nat} (h : j < l.length) : l.take (j + 1) = l.take j ++ [l.getD j 0] := by
  rw [List.take_succ_eq_append_getElem h, List.getD_eq_getElem?_getD, List.getElem?_eq_getElem h]; rfl
theorem mem_want (o : Nat) (l : List Int) : ∀ j, j ≤ l.length → ∀ x, x ∈ want o l j ↔ x ∈ l.take j ∧ good o x = true := by
  intro j
  induction j with
  | zero => intro _ x; simp [want]
  | succ j ih =>
    intro hj x
    have ih := ih (by omega) x
    rw [take_succ_getD l (by omega)]
    simp only [want, List.mem_append, List.mem_singleton]
    generalize l.getD j 0 = y
    by_cases hg : good o y = true
    · by_cases hm : (l.take j).contains y = true
      · rw [if_neg (by rw [hm]; simp), ih]
        constructor
        · rintro ⟨h1, h2⟩; exact ⟨.inl h1, h2⟩
        · rintro ⟨h1 | h1, h2⟩
          · exact ⟨h1, h2⟩
          · rw [h1]; exact ⟨by simpa using hm, hg⟩
      · rw [if_pos (by simp only [hg, Bool.true_and, Bool.not_eq_true']; simpa using hm), List.mem_append, ih, List.mem_singleton]
        constructor
        · rintro (⟨h1, h2⟩ | h1)
          · exact ⟨.inl h1, h2⟩
          · rw [h1]; exact ⟨.inr rfl, hg⟩
        · rintro ⟨h1 | h1, h2⟩
          · exact .inl ⟨h1, h2⟩
          · exact .inr h1
    · rw [if_neg (by rw [Bool.eq_false_iff.2 hg]; simp), ih]
      constructor
      · rintro ⟨h1, h2⟩; exact ⟨.inl h1, h2⟩
      · rintro ⟨h1 | h1, h2⟩
        · exact ⟨h1, h2⟩
        · rw [h1] at h2; exact absurd h2 hg
/-- Where a car that comes was found. -/
theorem found (o : Nat) (l : List Int) : ∀ n, n ≤ l.length → ∀ i, i < (want o l n).length → ∃ j, j < n ∧ (want o l n).getD i 0 = l.getD j 0 ∧ want o l j = (want o l n).take i ∧ good o (l.getD j 0) = true ∧ l.getD j 0 ∉ l.take j := by
  intro n
  induction n with
  | zero => intro _ i hi; simp [want] at hi
  | succ n ih =>
    intro hn i hi
    by_cases hc : (good o (l.getD n 0) && !(l.take n).contains (l.getD n 0)) = true
    · have e : want o l (n + 1) = want o l n ++ [l.getD n 0] := by simp only [want]; rw [if_pos hc]
      rw [e] at hi ⊢
      simp only [List.length_append, List.length_singleton] at hi
      by_cases hlt : i < (want o l n).length
      · obtain ⟨j, h1, h2, h3, h4, h5⟩ := ih (by omega) i hlt
        refine ⟨j, by omega, ?_, ?_, h4, h5⟩
        · rw [← h2]; simp only [List.getD_eq_getElem?_getD]; rw [List.getElem?_append_left hlt]
        · rw [h3, List.take_append_of_le_length (by omega)]
      · obtain rfl : i = (want o l n).length := by omega
        simp only [Bool.and_eq_true, Bool.not_eq_true'] at hc
        refine ⟨n, by omega, ?_, ?_, hc.1, ?_⟩
        · simp only [List.getD_eq_getElem?_getD]; rw [List.getElem?_append_right (Nat.le_refl _)]; simp
        · rw [List.take_append_of_le_length (Nat.le_refl _), List.take_length]
        · have := hc.2; simpa using this
    · have e : want o l (n + 1) = want o l n := by simp only [want]; rw [if_neg hc]
      rw [e] at hi ⊢
      obtain ⟨j, h1, h2⟩ := ih (by omega) i hi
      exact ⟨j, by omega, h2⟩
/-- The bits of cars. -/
def bitsOf : List Int → Nat
  | [] => 0
  | c :: l => bitsOf l ||| bitN c
theorem bitsOf_lt : ∀ l, bitsOf l < 18446744073709551616
  | [] => by unfold bitsOf; omega
  | c :: l => or_lt (bitsOf_lt l) (bitN_lt c)
theorem bitsOf_test (l : List Int) (i : Nat) : (bitsOf l).testBit i = l.any (fun c => decide (0 ≤ c ∧ c < 64) && decide (c.toNat = i)) := by
  induction l with
  | nil => simp [bitsOf]
  | cons c l ih => simp only [bitsOf, Nat.testBit_or, ih, bitN_test, List.any_cons]; rw [Bool.or_comm]
theorem bitsOf_snoc (l : List Int) (c : Int) : bitsOf l ||| bitN c = bitsOf (l ++ [c]) := by
  apply Nat.eq_of_testBit_eq; intro i
  rw [Nat.testBit_or, bitsOf_test, bitsOf_test, bitN_test, List.any_append]; simp
theorem hasN_bitsOf (l : List Int) (c : Int) (hc : 0 ≤ c ∧ c < 64) : (bitsOf l).testBit c.toNat = decide (c ∈ l) := by
  rw [bitsOf_test, Bool.eq_iff_iff, List.any_eq_true, decide_eq_true_eq]
  constructor
  · rintro ⟨x, hx, h⟩
    simp only [Bool.and_eq_true, decide_eq_true_eq] at h
    have : x = c := by omega
    rwa [this] at hx
  · intro h
    exact ⟨c, h, by simp; omega⟩
theorem comes_good (l : List Int) (o : Nat) (c : Int) : comesN (bitsOf l) o c = (good o c && !decide (c ∈ l)) := by
  unfold comesN good
  by_cases h : 0 ≤ c ∧ c < 64
  · rw [hasN_bitsOf l c h, decide_eq_true h]; cases decide (c ∈ l) <;> cases o.testBit c.toNat <;> rfl
  · rw [decide_eq_false h]; rfl
theorem next_is (o : Nat) (ho : o < 18446744073709551616) (l : List Int) (i : Nat) (hi : i < (want o l l.length).length) : nextF l (bitsOf ((want o l l.length).take i)) o = (want o l l.length).getD i 0 := by
  obtain ⟨j, h1, h2, h3, h4, h5⟩ := found o l l.length (Nat.le_refl _) i hi
  rw [← h3, h2]
  unfold nextF
  rw [comes_nat _ o (bitsOf_lt _) ho]
  have e : l = l.take j ++ (l.getD j 0 :: l.drop (j + 1)) := by
    rw [List.getD_eq_getElem?_getD, List.getElem?_eq_getElem h1, Option.getD_some, ← List.drop_eq_getElem_cons h1, List.take_append_drop]
  have e1 : (l.take j).filter (comesN (bitsOf (want o l j)) o) = [] := by
    rw [List.filter_eq_nil_iff]
    intro x hx
    rw [comes_good]
    by_cases hg : good o x = true
    · have : x ∈ want o l j := (mem_want o l j (by omega) x).2 ⟨hx, hg⟩
      simp [this]
    · simp [hg]
  have e2 : comesN (bitsOf (want o l j)) o (l.getD j 0) = true := by
    rw [comes_good, h4]
    have : l.getD j 0 ∉ want o l j := fun h => h5 ((mem_want o l j (by omega) _).1 h).1
    simp only [Bool.true_and, Bool.not_eq_true', decide_eq_false_iff_not]; exact this
  generalize hp : comesN (bitsOf (want o l j)) o = p at *
  generalize l.getD j 0 = x at *
  have e' : l.filter p = x :: (l.drop (j + 1)).filter p := by
    conv => lhs; rw [e]
    rw [List.filter_append, e1, List.nil_append, List.filter_cons_of_pos e2]
  rw [e']; rfl
theorem none_left (o : Nat) (ho : o < 18446744073709551616) (l : List Int) : l.filter (comes (bitsOf (want o l l.length) : Int) (o : Int)) = [] := by
  rw [comes_nat _ o (bitsOf_lt _) ho, List.filter_eq_nil_iff]
  intro x hx
  rw [comes_good]
  by_cases hg : good o x = true
  · have : x ∈ want o l l.length := (mem_want o l l.length (Nat.le_refl _) x).2 ⟨by simpa using hx, hg⟩
    simp [this]
  · simp [hg]
/-- The last loop: done car by car. -/
theorem all_l2 (l : List Int) (o : Nat) (ho : o < 18446744073709551616) (hw : (want o l l.length).length ≤ 1000) (m : Nat) : ∀ (k : Nat) (i : Int), 0 ≤ i → ((want o l l.length).length : Int) - i = m → m < k →
    paternosterlaw19_OrderAll.l2 k l o (want o l l.length) (bitsOf ((want o l l.length).take i.toNat)) i = some true := by
  induction m with
  | zero =>
    intro k i h0 hm hk
    obtain ⟨k, rfl⟩ : ∃ m, k = m + 1 := ⟨k - 1, by omega⟩
    simp only [paternosterlaw19_OrderAll.l2]
    rw [if_neg (by omega), List.take_of_length_le (by omega)]
    simp only [order_Next.f, order_Left.f, nextF, leftF, Option.bind_some, none_left o ho l]
    simp
  | succ m ih =>
    intro k i h0 hm hk
    obtain ⟨k, rfl⟩ : ∃ m, k = m + 1 := ⟨k - 1, by omega⟩
    have hi : i.toNat < (want o l l.length).length := by omega
    have hrd : rd (want o l l.length) i = (want o l l.length).getD i.toNat 0 := rfl
    simp only [paternosterlaw19_OrderAll.l2]
    rw [if_pos (by omega)]
    simp only [order_Next.f, Option.bind_some, next_is o ho l i.toNat hi]
    obtain ⟨j, h1, h2, h3, h4, h5⟩ := found o l l.length (Nat.le_refl _) i.toNat hi
    have hin : 0 ≤ l.getD j 0 ∧ l.getD j 0 < 64 := by simp only [good, Bool.and_eq_true, decide_eq_true_eq] at h4; exact h4.1
    have hnot : hasN (bitsOf ((want o l l.length).take i.toNat)) ((want o l l.length).getD i.toNat 0) = false := by
      rw [h2, ← h3]; unfold hasN
      rw [hasN_bitsOf _ _ hin, decide_eq_true hin]
      have : l.getD j 0 ∉ want o l j := fun h => h5 ((mem_want o l j (by omega) _).1 h).1
      rw [decide_eq_false this]; rfl
    rw [if_pos h0, if_pos hrd.symm, has_f _ (bitsOf_lt _), hnot, with_f _ (bitsOf_lt _), bitsOf_snoc]
    simp only [Option.bind_some]
    rw [if_neg (by simp), wrap_in (by omega) (by omega), ← take_succ_getD _ hi, show i.toNat + 1 = (i + 1).toNat by omega]
    exact ih k (i + 1) (by omega) (by omega) (by omega)
theorem want_len (o : Nat) (l : List Int) : ∀ j, (want o l j).length ≤ j := by
  intro j
  induction j with
  | zero => simp [want]
  | succ j ih =>
    simp only [want]; split
    · rw [List.length_append, List.length_singleton]; omega
    · omega
/-- The middle loop: is it the first of its kind? -/
theorem all_l1 (l : List Int) (o : Nat) (hl : l.length ≤ 100) (i : Int) (h0 : 0 ≤ i) (hi : i < l.length) (K : Nat) (hnext : ∀ k, K ≤ k → paternosterlaw19_OrderAll.l0 k l o (want o l (i + 1).toNat) (i + 1) = some true) (m : Nat) : ∀ (k : Nat) (j : Int) (b : Bool), 0 ≤ j → i - j = m → K + m < k →
    (b = (good o (l.getD i.toNat 0) && !(l.take j.toNat).contains (l.getD i.toNat 0))) → paternosterlaw19_OrderAll.l1 k l o (want o l i.toNat) i b j = some true := by
  have hw := want_len o l i.toNat
  have ei : (i + 1).toNat = i.toNat + 1 := by omega
  induction m with
  | zero =>
    intro k j b hj0 hm hk hb
    obtain ⟨k, rfl⟩ : ∃ m, k = m + 1 := ⟨k - 1, by omega⟩
    obtain rfl : j = i := by omega
    simp only [paternosterlaw19_OrderAll.l1]
    rw [if_neg (by omega)]
    have hrd : rd l j = l.getD j.toNat 0 := rfl
    have hn := hnext k (by omega)
    rw [ei] at hn
    simp only [want] at hn
    rw [← hb] at hn
    cases b
    · rw [if_neg (by simp)] at hn ⊢
      rw [wrap_in (by omega) (by omega)]; exact hn
    · rw [if_pos rfl] at hn ⊢
      rw [if_pos h0, if_pos hi, if_pos (by omega), hrd, wrap_in (by omega) (by omega)]; exact hn
  | succ m ih =>
    intro k j b hj0 hm hk hb
    obtain ⟨k, rfl⟩ : ∃ m, k = m + 1 := ⟨k - 1, by omega⟩
    simp only [paternosterlaw19_OrderAll.l1]
    rw [if_pos (by omega)]
    have hrd : ∀ z, rd l z = l.getD z.toNat 0 := fun _ => rfl
    have et : l.take (j + 1).toNat = l.take j.toNat ++ [l.getD j.toNat 0] := by rw [show (j + 1).toNat = j.toNat + 1 by omega, take_succ_getD l (by omega)]
    cases b
    · rw [if_neg (by simp), wrap_in (by omega) (by omega)]
      refine ih k (j + 1) false (by omega) (by omega) (by omega) ?_
      rw [et]
      have hb := hb.symm
      cases hg : good o (l.getD i.toNat 0)
      · rfl
      · rw [hg] at hb
        have : (l.take j.toNat).contains (l.getD i.toNat 0) = true := by simpa using hb
        rw [List.contains_eq_mem, decide_eq_true_eq] at this
        rw [List.contains_eq_mem, decide_eq_true (List.mem_append_left _ this)]; rfl
    · rw [if_pos rfl, if_pos hj0, if_pos (by omega), if_pos h0, if_pos hi, wrap_in (by omega) (by omega)]
      refine ih k (j + 1) _ (by omega) (by omega) (by omega) ?_
      rw [hrd, hrd, et]
      have hb := hb.symm
      simp only [Bool.and_eq_true, Bool.not_eq_true'] at hb
      rw [hb.1]
      have h2 := hb.2
      simp only [List.contains_eq_mem, decide_eq_false_iff_not] at h2 ⊢
      simp only [List.mem_append, h2, false_or, List.mem_singleton, Bool.true_and]
      rw [Bool.eq_iff_iff, bne_iff_ne, Bool.not_eq_true', decide_eq_false_iff_not]
      exact ⟨fun h e => h e.symm, fun h e => h e.symm⟩
theorem all_l0 (l : List Int) (o : Nat) (ho : o < 18446744073709551616) (hl : l.length ≤ 100) (m : Nat) : ∀ (k : Nat) (i : Int), 0 ≤ i → (l.length : Int) - i = m → 104 * m + 200 < k →
    paternosterlaw19_OrderAll.l0 k l o (want o l i.toNat) i = some true := by
  induction m with
  | zero =>
    intro k i h0 hm hk
    obtain ⟨k, rfl⟩ : ∃ m, k = m + 1 := ⟨k - 1, by omega⟩
    obtain rfl : i = (l.length : Int) := by omega
    simp only [paternosterlaw19_OrderAll.l0]
    rw [if_neg (by omega), Int.toNat_natCast]
    have hw := want_len o l l.length
    have := all_l2 l o ho (by omega) (want o l l.length).length k 0 (by omega) (by omega) (by omega)
    simpa [bitsOf] using this
  | succ m ih =>
    intro k i h0 hm hk
    obtain ⟨k, rfl⟩ : ∃ m, k = m + 1 := ⟨k - 1, by omega⟩
    obtain ⟨k', rfl⟩ : ∃ m, k = m + 1 := ⟨k - 1, by omega⟩
    have hrd : rd l i = l.getD i.toNat 0 := rfl
    have step : ∀ b, b = good o (l.getD i.toNat 0) → paternosterlaw19_OrderAll.j1 (k' + 1) l o (want o l i.toNat) i b = some true := by
      intro b hb
      simp only [paternosterlaw19_OrderAll.j1]
      refine all_l1 l o hl i h0 (by omega) (104 * m + 201) (fun k hk => ih k (i + 1) (by omega) (by omega) (by omega)) i.toNat k' 0 b (by omega) (by omega) (by omega) ?_
      rw [hb]; simp
    simp only [paternosterlaw19_OrderAll.l0]
    rw [if_pos (by omega), if_pos h0, hrd]
    generalize hx : l.getD i.toNat 0 = x at *
    by_cases h1 : x ≥ 0
    · by_cases h2 : x < 64
      · rw [if_pos h1, if_pos h2, has_f o ho]
        simp only [Option.bind_some]
        exact step _ (by unfold good hasN; rw [decide_eq_true (by omega : 0 ≤ x ∧ x < 64)]; rfl)
      · rw [if_pos h1, if_neg h2]
        exact step _ (by unfold good; rw [decide_eq_false (by omega : ¬ (0 ≤ x ∧ x < 64))]; rfl)
    · rw [if_neg h1]
      exact step _ (by unfold good; rw [decide_eq_false (by omega : ¬ (0 ≤ x ∧ x < 64))]; rfl)
theorem OrderAll : paternosterlaw19_OrderAll.Pure := by
  intro l a2 _ _ _ h2
  obtain ⟨o, rfl, ho⟩ := u64_nat h2
  refine ⟨20000, ?_⟩
  unfold paternosterlaw19_OrderAll.f
  rw [awake1]
  simp only [Option.bind_some, if_true]
  by_cases hl : (l.length : Int) > 100
  · rw [if_pos hl]
  · rw [if_neg hl]
    have := all_l0 l o ho (by omega) l.length 20000 0 (by omega) (by omega) (by omega)
    simpa [want] using this
end Go.Proofs.Ytbaklgemdljmeaa.Pure
