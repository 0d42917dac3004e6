/- Cars of one bank stand together. -/
import Derived.Test.YtomaojmccchibaaConfPlain
import Derived.Test.YtomaojmccchibaaXx16
namespace Go.Proofs.Ytomaojmccchibaa.X
open Go.RowKit Go.Proofs.YtomaojmccchibaaW.PrintWords Go.Proofs.YtomaojmccchibaaW.PrintLast Go.Proofs.YtomaojmccchibaaW.PrintMore
set_option linter.unusedVariables false
set_option linter.unusedSimpArgs false

/-- Cars of the first banks. -/
def pre (l : List S38) (i : Nat) : Int := sumC (l.take i)
theorem pre_succ {l : List S38} {i : Nat} (h : i < l.length) : pre l (i + 1) = pre l i + (rd_T38 l (i : Int)).f0 := by
  unfold pre sumC
  rw [List.take_succ_eq_append_getElem h, rdT_at h, List.map_append, List.sum_append]; simp
theorem pre_len (l : List S38) : pre l l.length = sumC l := by unfold pre; rw [List.take_length]
theorem rdT_b {l : List S38} (hb : ∀ b ∈ l, 1 ≤ b.f0 ∧ b.f0 ≤ 8) {i : Nat} (h : i < l.length) : 1 ≤ (rd_T38 l (i : Int)).f0 ∧ (rd_T38 l (i : Int)).f0 ≤ 8 := by
  rw [rdT_at h]; exact hb _ (List.getElem_mem h)
theorem pre_lt {l : List S38} (hb : ∀ b ∈ l, 1 ≤ b.f0 ∧ b.f0 ≤ 8) (d : Nat) : ∀ i : Nat, i + d ≤ l.length → pre l i + d ≤ pre l (i + d) := by
  induction d with
  | zero => intro i _; simp
  | succ d ih =>
    intro i h
    have h1 := ih i (by omega)
    have h2 := pre_succ (l := l) (i := i + d) (by omega)
    have h3 := rdT_b hb (i := i + d) (by omega)
    rw [show i + (d + 1) = i + d + 1 by omega]; omega
theorem bank_loop {l : List S38} (hl : l.length ≤ 1000) (hb : ∀ b ∈ l, 1 ≤ b.f0 ∧ b.f0 ≤ 8) (d : Nat) : ∀ (k i : Nat) (m : Int), i + d < l.length → 0 ≤ m → m < (rd_T38 l ((i + d : Nat) : Int)).f0 → d < k → ∀ c : Int, c = pre l (i + d) - pre l i + m → c ≤ 1000000 →
    conf_Conf_Bank.l0 k c l (l.length : Int) (i : Int) = some ((i + d : Nat) : Int) := by
  induction d with
  | zero =>
    intro k i m hi h0 h1 hk c hc hc1
    obtain ⟨k, rfl⟩ : ∃ n, k = n + 1 := ⟨k - 1, by omega⟩
    simp only [conf_Conf_Bank.l0]
    rw [Nat.add_zero] at *
    rw [if_pos (by omega), if_pos (by omega), if_pos (by omega), if_pos (by omega)]
  | succ d ih =>
    intro k i m hi h0 h1 hk c hc hc1
    obtain ⟨k, rfl⟩ : ∃ n, k = n + 1 := ⟨k - 1, by omega⟩
    have h2 := pre_succ (l := l) (i := i) (by omega)
    have h3 := pre_lt hb d (i + 1) (by omega)
    have h4 := rdT_b hb (i := i) (by omega)
    rw [show i + (d + 1) = i + 1 + d by omega] at *
    simp only [conf_Conf_Bank.l0]
    rw [if_pos (by omega), if_pos (by omega), if_pos (by omega), if_neg (by omega), w64 (x := (i : Int) + 1) (by omega) (by omega), w64 (by omega) (by omega)]
    exact ih k (i + 1) m (by omega) h0 h1 (by omega) _ (by omega) (by omega)
section
variable {l : List S38} {x1 x2 : Int} {o : List Int} {x4 x5 x6 x7 x8 x9 x10 x11 x12 : Int} (h : Grp l x1 x2 o x4 x5 x6 x7 x8 x9 x10 x11 x12)
include h
theorem Grp.bank_f (k j : Nat) (m : Int) (hk : 30 ≤ k) (hj : j < l.length) (h0 : 0 ≤ m) (h1 : m < (rd_T38 l (j : Int)).f0) (c : Int) (hc : c = pre l j + m) :
    conf_Conf_Bank.f k l x1 x2 o x4 x5 x6 x7 x8 x9 x10 x11 x12 c = some (j : Int) := by
  have hb : ∀ b ∈ l, 1 ≤ b.f0 ∧ b.f0 ≤ 8 := fun b hb => (h.bank b hb).1
  have hn := h.n2
  have e0 : pre l 0 = 0 := rfl
  have e1 := pre_lt hb j 0 (by omega)
  have e2 := pre_lt hb (l.length - j) j (by omega)
  have e3 := h.cars
  have e4 := rdT_b hb hj
  rw [Nat.zero_add] at e1
  rw [show j + (l.length - j) = l.length by omega, pre_len] at e2
  unfold conf_Conf_Bank.f
  rw [if_neg (by omega)]
  have := bank_loop (l := l) (by omega) hb j k 0 m (by omega) h0 (by rwa [Nat.zero_add]) (by omega) c (by rw [Nat.zero_add]; omega) (by omega)
  rw [Nat.zero_add] at this
  exact this
theorem banks_loop (d : Nat) : ∀ (k t : Nat) (n car : Int), t < l.length → pre l t + n = car → 0 ≤ n → n ≤ (rd_T38 l (t : Int)).f0 → sumC l - car = d → 2 * d + 40 ≤ k →
    paternosterlaw05_ConfBanks.l0 k t n car l x1 x2 o x4 x5 x6 x7 x8 x9 x10 x11 x12 = some true := by
  have hb : ∀ b ∈ l, 1 ≤ b.f0 ∧ b.f0 ≤ 8 := fun b hb => (h.bank b hb).1
  have hn := h.n2
  have e3 := h.cars
  induction d with
  | zero =>
    intro k t n car ht hp h0 h1 hd hk
    obtain ⟨k, rfl⟩ : ∃ n, k = n + 1 := ⟨k - 1, by omega⟩
    have e2 := pre_lt hb (l.length - (t + 1)) (t + 1) (by omega)
    have e1 := pre_succ ht
    rw [show t + 1 + (l.length - (t + 1)) = l.length by omega, pre_len] at e2
    simp only [paternosterlaw05_ConfBanks.l0]
    rw [h.cars_f k (by omega), Option.bind_some, if_neg (by omega), w64 (x := (l.length : Int) - 1) (by omega) (by omega), if_pos (by omega), if_pos (by omega), if_pos (by omega)]
    rw [show n = (rd_T38 l (t : Int)).f0 by omega]; simp
  | succ d ih =>
    intro k t n car ht hp h0 h1 hd hk
    obtain ⟨k, rfl⟩ : ∃ n, k = n + 1 + 1 := ⟨k - 2, by omega⟩
    have e1 := pre_succ ht
    have e4 := rdT_b hb ht
    have e5 := pre_lt hb t 0 (by omega)
    rw [Nat.zero_add] at e5
    have e6 : pre l 0 = 0 := rfl
    simp only [paternosterlaw05_ConfBanks.l0]
    rw [h.cars_f (k + 1) (by omega), Option.bind_some, if_pos (by omega)]
    by_cases hlt : n < (rd_T38 l (t : Int)).f0
    · rw [h.bank_f (k + 1) t n (by omega) ht h0 hlt car (by omega), Option.bind_some, if_neg (by omega), w64 (x := (t : Int) + 1) (by omega) (by omega), if_neg (by omega), decide_eq_false (by omega)]
      simp only [paternosterlaw05_ConfBanks.j2]
      rw [if_neg (by simp), if_pos trivial, w64 (x := n + 1) (by omega) (by omega), w64 (x := car + 1) (by omega) (by omega)]
      exact ih k t (n + 1) (car + 1) ht (by omega) (by omega) (by omega) (by omega) (by omega)
    · have ht1 : t + 1 < l.length := by
        rcases Nat.lt_or_ge (t + 1) l.length with h | h
        · exact h
        · have : t + 1 = l.length := by omega
          rw [this, pre_len] at e1; omega
      have e7 := rdT_b hb ht1
      rw [h.bank_f (k + 1) (t + 1) 0 (by omega) ht1 (by omega) (by omega) car (by omega), Option.bind_some, if_neg (by omega), w64 (x := (t : Int) + 1) (by omega) (by omega), if_neg (by omega), decide_eq_false (by omega)]
      simp only [paternosterlaw05_ConfBanks.j2]
      rw [if_neg (by simp), if_neg (by omega), if_pos (by omega), if_pos (by omega), if_pos (by omega), w64 (x := car + 1) (by omega) (by omega)]
      exact ih k (t + 1) (0 + 1) (car + 1) ht1 (by omega) (by omega) (by omega) (by omega) (by omega)
end
theorem banks_true (l : List S38) (x1 x2 : Int) (o : List Int) (x4 x5 x6 x7 x8 x9 x10 x11 x12 : Int) : paternosterlaw05_ConfBanks.f 400 l x1 x2 o x4 x5 x6 x7 x8 x9 x10 x11 x12 = some true := by
  unfold paternosterlaw05_ConfBanks.f paternosterlaw05_awake.f
  rw [Option.bind_some, if_pos rfl, small_f, Option.bind_some]
  by_cases hs : (decide (l.length ≤ 12) && decide (o.length ≤ 100)) = true
  · rw [if_pos hs]
    simp only [Bool.and_eq_true, decide_eq_true_eq] at hs
    rw [chk_f hs.2, Option.bind_some]
    by_cases hc : checkV l x1 x2 o x4 x5 x6 x7 x8 x9 x10 x11 x12 = true
    · rw [hc]
      have h := check_iff.1 hc
      have hb : ∀ b ∈ l, 1 ≤ b.f0 ∧ b.f0 ≤ 8 := fun b hb => (h.bank b hb).1
      have h1 := h.n1
      have h2 := h.cars
      have h3 := rdT_b hb (i := 0) (by omega)
      simp only [paternosterlaw05_ConfBanks.j0]
      rw [if_neg (by simp)]
      obtain ⟨d, hd⟩ : ∃ d : Nat, sumC l - 0 = d := ⟨(sumC l).toNat, by omega⟩
      exact banks_loop h d 399 0 0 0 (by omega) rfl (by omega) (by simpa using (show 0 ≤ (rd_T38 l ((0 : Nat) : Int)).f0 by omega)) hd (by omega)
    · rw [Bool.not_eq_true] at hc
      rw [hc]; simp [paternosterlaw05_ConfBanks.j0]
  · rw [if_neg hs]; simp [paternosterlaw05_ConfBanks.j0]
end Go.Proofs.Ytomaojmccchibaa.X
