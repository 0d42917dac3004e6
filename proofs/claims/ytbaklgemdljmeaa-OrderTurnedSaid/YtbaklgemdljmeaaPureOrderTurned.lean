/- OrderTurned: in whatever order, as many are left; whoever is next is one of those in any other order. No condition. -/
import Derived.Test.YtbaklgemdljmeaaXx5
import Derived.Test.YtbaklgemdljmeaaOrderPlain
namespace Go.Proofs.Ytbaklgemdljmeaa.Pure
open Go.RowKit Go.Proofs.Ytbaklgemdljmeaa.X Go.Proofs.YtbaklgemdljmeaaW.PrintWords Go.Proofs.YtbaklgemdljmeaaW.PrintLast

theorem awake1 : paternosterlaw19_awake.f = some true := by
  have n1 : ([2, 0, 1] : List Int).filter (comesN 4 0) = [0, 1] := by decide +kernel
  have n2 : ([2, 0, 1] : List Int).filter (comesN 4 1) = [1] := by decide +kernel
  have n3 : ([2, 0, 1] : List Int).filter (comesN 7 0) = [] := by decide +kernel
  have c1 : comes 4 0 = comesN 4 0 := comes_nat 4 0 (by omega) (by omega)
  have c2 : comes 4 1 = comesN 4 1 := comes_nat 4 1 (by omega) (by omega)
  have c3 : comes 7 0 = comesN 7 0 := comes_nat 7 0 (by omega) (by omega)
  have w1 : order_With.f 0 2 = some 4 := with_f 0 (by omega) 2
  unfold paternosterlaw19_awake.f
  simp only [order_Next.f, order_Left.f, nextF, leftF, Option.bind_some, c1, c2, c3, n1, n2, n3, w1]
  simp
theorem rd_get {l : List Int} {i : Int} (h : i.toNat < l.length) : rd l i = l[i.toNat] := by
  unfold rd; rw [List.getD_eq_getElem?_getD, List.getElem?_eq_getElem h]; rfl
theorem comesN_comm (d o : Nat) : comesN o d = comesN d o := by funext c; unfold comesN; rw [Bool.or_comm]
/-- The first one of a filter: none, or one that is in it. -/
theorem head_cases (l : List Int) (p : Int → Bool) (hp : ∀ x, p x = true → 0 ≤ x) :
    (l.filter p = [] ∧ ((l.filter p).head?).getD (-1) = -1) ∨ ∃ a t, l.filter p = a :: t ∧ ((l.filter p).head?).getD (-1) = a ∧ p a = true ∧ 0 ≤ a := by
  cases h : l.filter p with
  | nil => exact .inl ⟨rfl, rfl⟩
  | cons a t =>
    have ha : a ∈ l.filter p := by rw [h]; simp
    have hpa := (List.mem_filter.1 ha).2
    exact .inr ⟨a, t, rfl, rfl, hpa, hp a hpa⟩
theorem filter_less (l : List Int) (p q : Int → Bool) (a : Int) (hq : ∀ x, q x = true → p x = true) (ha : a ∈ l) (hpa : p a = true) (hqa : q a = false) : (l.filter q).length < (l.filter p).length := by
  induction l with
  | nil => cases ha
  | cons x l ih =>
    have hle : (l.filter q).length ≤ (l.filter p).length := by
      rw [← List.countP_eq_length_filter, ← List.countP_eq_length_filter]
      exact List.countP_mono_left (fun x _ h => hq x h)
    by_cases hx : x = a
    · subst hx
      rw [List.filter_cons_of_neg (by simp [hqa]), List.filter_cons_of_pos hpa, List.length_cons]; omega
    · have ih := ih ((List.mem_cons.1 ha).resolve_left (fun e => hx e.symm))
      rw [List.filter_cons, List.filter_cons]
      cases hqx : q x
      · cases p x <;> simp <;> omega
      · rw [hq x hqx]; simp; omega
theorem turned_end (l : List Int) (d o : Nat) (hd : d < 18446744073709551616) (ho : o < 18446744073709551616) (k : Nat) :
    paternosterlaw19_OrderTurned.j1 (k + 1) d o l.reverse (nextF l d o) (leftF l d o) false = some true := by
  simp only [paternosterlaw19_OrderTurned.j1]
  rw [if_neg (by simp)]
  have hc := comes_nat d o hd ho
  have hp : ∀ x, comesN d o x = true → 0 ≤ x := by intro x hx; simp [comesN] at hx; omega
  unfold nextF leftF order_Next.f order_Left.f nextF leftF
  rw [hc]
  rcases head_cases l (comesN d o) hp with ⟨h1, h2⟩ | ⟨a, t, h1, h2, h3, h4⟩
  · rw [h2, h1]
    rw [List.filter_reverse, h1]; simp
  · rw [h2, if_neg (by omega), with_f d hd a]
    simp only [Option.bind_some]
    rw [comes_nat _ o (or_lt hd (bitN_lt a)) ho, List.filter_reverse, List.length_reverse]
    have ha : a ∈ l := by
      have : a ∈ l.filter (comesN d o) := by rw [h1]; simp
      exact (List.mem_filter.1 this).1
    have hin : 0 ≤ a ∧ a < 64 := by simp [comesN] at h3; omega
    have hlt := filter_less l (comesN d o) (comesN (d ||| bitN a) o) a (fun x hx => by
      simp only [comesN, Nat.testBit_or, Bool.and_eq_true, Bool.not_eq_true', Bool.or_eq_false_iff, decide_eq_true_eq] at hx ⊢
      exact ⟨hx.1, hx.2.1.1, hx.2.2⟩) ha h3 (by
      simp only [comesN, Nat.testBit_or, bitN_test, decide_eq_true hin]; simp)
    rw [if_pos (by rw [h1]; simp), if_pos (by omega)]
    simp [h3]
theorem turned_loop (l : List Int) (d o : Nat) (hd : d < 18446744073709551616) (ho : o < 18446744073709551616) (hl : l.length ≤ 60) (m : Nat) : ∀ (k : Nat) (i : Int), 0 ≤ i → (l.length : Int) - i = m → m + 2 < k →
    paternosterlaw19_OrderTurned.l0 k l d o (l.reverse.take i.toNat) i = some true := by
  induction m with
  | zero =>
    intro k i h0 hm hk
    obtain ⟨k, rfl⟩ : ∃ m, k = m + 1 := ⟨k - 1, by omega⟩
    obtain ⟨k, rfl⟩ : ∃ m, k = m + 1 := ⟨k - 1, by omega⟩
    obtain rfl : i = (l.length : Int) := by omega
    simp only [paternosterlaw19_OrderTurned.l0]
    rw [if_neg (by omega), Int.toNat_natCast, List.take_of_length_le (by simp)]
    have e1 : leftF l.reverse d o = leftF l d o := by unfold leftF; rw [List.filter_reverse, List.length_reverse]
    have e2 : leftF l o d = leftF l d o := by unfold leftF; rw [comes_nat d o hd ho, comes_nat o d ho hd, comesN_comm]
    have e3 : nextF l o d = nextF l d o := by unfold nextF; rw [comes_nat d o hd ho, comes_nat o d ho hd, comesN_comm]
    simp only [order_Next.f, order_Left.f, Option.bind_some, e1, e2, e3, if_true, bne_self_eq_false]
    exact turned_end l d o hd ho k
  | succ m ih =>
    intro k i h0 hm hk
    obtain ⟨k, rfl⟩ : ∃ m, k = m + 1 := ⟨k - 1, by omega⟩
    have hi : i.toNat < l.length := by omega
    have hr : ((l.length : Int) - 1 - i).toNat < l.length := by omega
    have e2 : l.reverse.take i.toNat ++ [l[((l.length : Int) - 1 - i).toNat]] = l.reverse.take (i + 1).toNat := by
      rw [show (i + 1).toNat = i.toNat + 1 by omega, List.take_succ_eq_append_getElem (by simpa using hi), List.getElem_reverse]
      congr 3; omega
    simp only [paternosterlaw19_OrderTurned.l0]
    rw [if_pos (by omega), wrap_in (x := (l.length : Int) - 1) (by omega) (by omega), wrap_in (x := (l.length : Int) - 1 - i) (by omega) (by omega), if_pos (by omega), if_pos (by omega), if_pos (by simp; omega), rd_get hr, e2, wrap_in (x := i + 1) (by omega) (by omega)]
    exact ih k (i + 1) (by omega) (by omega) (by omega)
theorem OrderTurned : paternosterlaw19_OrderTurned.Pure := by
  intro l a1 a2 _ _ _ h1 h2
  obtain ⟨d, rfl, hd⟩ := u64_nat h1
  obtain ⟨o, rfl, ho⟩ := u64_nat h2
  refine ⟨100, ?_⟩
  unfold paternosterlaw19_OrderTurned.f
  rw [awake1]
  simp only [Option.bind_some, if_true]
  by_cases hl : (l.length : Int) > 60
  · rw [if_pos hl]
  · rw [if_neg hl]
    have := turned_loop l d o hd ho (by omega) l.length 100 0 (by omega) (by omega) (by omega)
    simpa using this
end Go.Proofs.Ytbaklgemdljmeaa.Pure
