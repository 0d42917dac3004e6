/- The reference's numbers of a group that may be. -/
import Derived.Test.YtomaojmccchibaaConfM2
import Derived.Test.YtomaojmccchibaaConfRef
import Derived.Test.YtomaojmccchibaaConfMost
import Derived.Test.YtomaojmccchibaaRatesM3
import Derived.Test.YtomaojmccchibaaXx22
import Derived.Test.YtomaojmccchibaaXx23
import Derived.Test.YtomaojmccchibaaXx24
import Derived.Test.YtomaojmccchibaaXx25
import Derived.Test.YtomaojmccchibaaXx26
namespace Go.Proofs.Ytomaojmccchibaa.X
open Go.RowKit Go.Proofs.YtomaojmccchibaaW.PrintWords Go.Proofs.YtomaojmccchibaaW.PrintLast Go.Proofs.YtomaojmccchibaaW.PrintMore
set_option linter.unusedVariables false
set_option linter.unusedSimpArgs false

section
variable {l : List S38} {x1 x2 : Int} {o : List Int} {x4 x5 x6 x7 x8 x9 x10 x11 x12 : Int} (h : Grp l x1 x2 o x4 x5 x6 x7 x8 x9 x10 x11 x12)
include h
theorem Grp.b8 : ∀ b ∈ l, 1 ≤ b.f0 ∧ b.f0 ≤ 8 := fun b hb => (h.bank b hb).1
theorem Grp.pre_bd {i : Nat} (hi : i ≤ l.length) : 0 ≤ pre l i ∧ pre l i ≤ 64 := by
  have e0 : pre l 0 = 0 := rfl
  have e1 := pre_lt h.b8 i 0 (by omega)
  have e2 := pre_lt h.b8 (l.length - i) i (by omega)
  have e3 := h.cars
  rw [Nat.zero_add] at e1
  rw [show i + (l.length - i) = l.length by omega, pre_len] at e2
  omega
theorem Grp.bank_sync (d : Nat) : ∀ (k i : Nat) (car : Int), i + d = l.length → d < k → pre l i ≤ car → car ≤ 1000 →
    ∃ v, conf_Conf_Bank.l0 k (car - pre l i) l (l.length : Int) (i : Int) = some v ∧ paternosterref05_Bank.l0 k car (pre l i) (i : Int) (l.map toR) x1 x2 o x4 x5 x6 x7 x8 x9 x10 x11 x12 = some v := by
  have hn := h.n2
  induction d with
  | zero =>
    intro k i car hi hk h0 h1
    obtain ⟨k, rfl⟩ : ∃ n, k = n + 1 := ⟨k - 1, by omega⟩
    refine ⟨-1, ?_, ?_⟩
    · simp only [conf_Conf_Bank.l0]
      rw [if_neg (by omega)]
    · simp only [paternosterref05_Bank.l0]
      rw [if_neg (by rw [List.length_map]; omega)]
  | succ d ih =>
    intro k i car hi hk h0 h1
    obtain ⟨k, rfl⟩ : ∃ n, k = n + 1 := ⟨k - 1, by omega⟩
    have e1 := pre_succ (l := l) (i := i) (by omega)
    have e2 := rdT_b h.b8 (i := i) (by omega)
    have e3 := h.pre_bd (i := i) (by omega)
    have e4 : (rd_T69 (l.map toR) (i : Int)).f0 = (rd_T38 l (i : Int)).f0 := by rw [rdT_toR (by omega)]; rfl
    simp only [conf_Conf_Bank.l0, paternosterref05_Bank.l0, e4]
    rw [if_pos (by omega), if_pos (by omega), if_pos (by omega), if_pos (show (i : Int) < ((l.map toR).length : Int) by rw [List.length_map]; omega), if_pos (show car ≥ pre l i from h0), w64 (x := pre l i + (rd_T38 l (i : Int)).f0) (by omega) (by omega)]
    rw [if_pos (show 0 ≤ (i : Int) by omega)]
    by_cases hlt : car - pre l i < (rd_T38 l (i : Int)).f0
    · exact ⟨(i : Int), by rw [if_pos hlt], by rw [if_pos (show car < pre l i + (rd_T38 l (i : Int)).f0 by omega)]⟩
    · rw [if_neg hlt, if_neg (show ¬ car < pre l i + (rd_T38 l (i : Int)).f0 by omega), w64 (x := car - pre l i - (rd_T38 l (i : Int)).f0) (by omega) (by omega), w64 (x := (i : Int) + 1) (by omega) (by omega)]
      have := ih k (i + 1) car (by omega) (by omega) (by omega) h1
      rwa [e1, show car - (pre l i + (rd_T38 l (i : Int)).f0) = car - pre l i - (rd_T38 l (i : Int)).f0 by omega] at this
theorem Grp.bank_neg (d : Nat) : ∀ (k i : Nat) (car : Int), i + d = l.length → d < k → car < 0 →
    paternosterref05_Bank.l0 k car (pre l i) (i : Int) (l.map toR) x1 x2 o x4 x5 x6 x7 x8 x9 x10 x11 x12 = some (-1) := by
  have hn := h.n2
  induction d with
  | zero =>
    intro k i car hi hk h0
    obtain ⟨k, rfl⟩ : ∃ n, k = n + 1 := ⟨k - 1, by omega⟩
    simp only [paternosterref05_Bank.l0]
    rw [if_neg (by rw [List.length_map]; omega)]
  | succ d ih =>
    intro k i car hi hk h0
    obtain ⟨k, rfl⟩ : ∃ n, k = n + 1 := ⟨k - 1, by omega⟩
    have e1 := pre_succ (l := l) (i := i) (by omega)
    have e2 := rdT_b h.b8 (i := i) (by omega)
    have e3 := h.pre_bd (i := i) (by omega)
    have e4 : (rd_T69 (l.map toR) (i : Int)).f0 = (rd_T38 l (i : Int)).f0 := by rw [rdT_toR (by omega)]; rfl
    simp only [paternosterref05_Bank.l0, e4]
    rw [if_pos (show (i : Int) < ((l.map toR).length : Int) by rw [List.length_map]; omega), if_neg (by omega), if_pos (by omega), w64 (x := pre l i + (rd_T38 l (i : Int)).f0) (by omega) (by omega), w64 (x := (i : Int) + 1) (by omega) (by omega), ← e1]
    exact ih k (i + 1) car (by omega) (by omega) h0
/-- One bank for both. -/
theorem Grp.bank_both (car : Int) (h1 : car ≤ 64) : ∃ v, conf_Conf_Bank.f 100 l x1 x2 o x4 x5 x6 x7 x8 x9 x10 x11 x12 car = some v ∧ paternosterref05_Bank.f 100 (l.map toR) x1 x2 o x4 x5 x6 x7 x8 x9 x10 x11 x12 car = some v := by
  have hn := h.n2
  unfold conf_Conf_Bank.f paternosterref05_Bank.f
  by_cases h0 : car < 0
  · refine ⟨-1, by rw [if_pos h0], ?_⟩
    exact h.bank_neg l.length 100 0 car (by omega) (by omega) h0
  · rw [if_neg h0]
    have := h.bank_sync l.length 100 0 car (by omega) (by omega) (show pre l 0 ≤ car by show (0 : Int) ≤ car; omega) (by omega)
    rwa [show car - pre l 0 = car by show car - 0 = car; omega] at this
theorem Grp.rcars_loop (d : Nat) : ∀ (k i : Nat), i + d = l.length → d < k →
    paternosterref05_Cars.l0 k (pre l i) (i : Int) (l.map toR) x1 x2 o x4 x5 x6 x7 x8 x9 x10 x11 x12 = some (sumC l) := by
  have hn := h.n2
  induction d with
  | zero =>
    intro k i hi hk
    obtain ⟨k, rfl⟩ : ∃ n, k = n + 1 := ⟨k - 1, by omega⟩
    simp only [paternosterref05_Cars.l0]
    rw [if_neg (by rw [List.length_map]; omega), ← pre_len, show i = l.length by omega]
  | succ d ih =>
    intro k i hi hk
    obtain ⟨k, rfl⟩ : ∃ n, k = n + 1 := ⟨k - 1, by omega⟩
    have e1 := pre_succ (l := l) (i := i) (by omega)
    have e2 := rdT_b h.b8 (i := i) (by omega)
    have e3 := h.pre_bd (i := i) (by omega)
    have e4 : (rd_T69 (l.map toR) (i : Int)).f0 = (rd_T38 l (i : Int)).f0 := by rw [rdT_toR (by omega)]; rfl
    simp only [paternosterref05_Cars.l0, e4]
    rw [if_pos (show (i : Int) < ((l.map toR).length : Int) by rw [List.length_map]; omega), if_pos (by omega), w64 (x := pre l i + (rd_T38 l (i : Int)).f0) (by omega) (by omega), w64 (x := (i : Int) + 1) (by omega) (by omega), ← e1]
    exact ih k (i + 1) (by omega) (by omega)
theorem Grp.rcars_f (k : Nat) (hk : 30 ≤ k) : paternosterref05_Cars.f k (l.map toR) x1 x2 o x4 x5 x6 x7 x8 x9 x10 x11 x12 = some (sumC l) := by
  have hn := h.n2
  exact h.rcars_loop l.length k 0 (by omega) (by omega)
theorem Grp.rmost_loop (d : Nat) : ∀ (k i : Nat), i + d = l.length → d + 101 < k →
    paternosterref05_Most.l0 k (mostV (l.take i)) (i : Int) (l.map toR) x1 x2 o x4 x5 x6 x7 x8 x9 x10 x11 x12 = some (mostV l) := by
  have hn := h.n2
  induction d with
  | zero =>
    intro k i hi hk
    obtain ⟨k, rfl⟩ : ∃ n, k = n + 1 := ⟨k - 1, by omega⟩
    simp only [paternosterref05_Most.l0]
    rw [if_neg (by rw [List.length_map]; omega), List.take_of_length_le (by omega)]
  | succ d ih =>
    intro k i hi hk
    obtain ⟨k, rfl⟩ : ∃ n, k = n + 1 := ⟨k - 1, by omega⟩
    have hil : i < l.length := by omega
    have hok : Ok (rd_T38 l (i : Int)).f1 := by rw [rdT_at hil]; exact (h.bank _ (List.getElem_mem hil)).2
    have e1 := mostV_succ hil
    have e2 : mostB (rd_T38 l (i : Int)) = mK (pV (rd_T38 l (i : Int)).f1) (qV (rd_T38 l (i : Int)).f1) 65 := by unfold mostB; rw [if_pos hok]
    have e3 := rmost_f hok k (by omega)
    have e5 := ih k (i + 1) (by omega) (by omega)
    rw [e1, e2] at e5
    simp only [paternosterref05_Most.l0]
    rw [rdT_toR hil]
    simp only [toR]
    rw [if_pos (show (i : Int) < ((l.map toR).length : Int) by rw [List.length_map]; omega), if_pos (by omega), e3, Option.bind_some, w64 (x := (i : Int) + 1) (by omega) (by omega)]
    generalize mK (pV (rd_T38 l (i : Int)).f1) (qV (rd_T38 l (i : Int)).f1) 65 = m at e5 ⊢
    unfold mx at e5
    by_cases hm : m > mostV (l.take i)
    · rw [if_pos hm]
      rw [if_pos hm] at e5
      exact e5
    · rw [if_neg hm]
      rw [if_neg hm] at e5
      exact e5
theorem Grp.rmost_f (k : Nat) (hk : 150 ≤ k) : paternosterref05_Most.f k (l.map toR) x1 x2 o x4 x5 x6 x7 x8 x9 x10 x11 x12 = some (mostV l) := by
  have hn := h.n2
  exact h.rmost_loop l.length k 0 (by omega) (by omega)
theorem Grp.rrun_f : paternosterref05_Run.f (l.map toR) x1 x2 o x4 x5 x6 x7 x8 x9 x10 x11 x12 = some (8 * x1 - 7) := by
  have := h.floors
  unfold paternosterref05_Run.f
  rw [w64 (x := 8 * x1) (by omega) (by omega), w64 (by omega) (by omega)]
omit h in
theorem rstops_f (b : Int) : paternosterref05_stops.f b = some (stp b) := by
  unfold paternosterref05_stops.f stp mx mn
  repeat' split
  all_goals (first | rfl | (refine congrArg some ?_; omega))
theorem Grp.rlimit_f (k : Nat) (hk : 30 ≤ k) (b : Int) : paternosterref05_Limit.f k (l.map toR) x1 x2 o x4 x5 x6 x7 x8 x9 x10 x11 x12 b = some (sumC l * (8 * x1 + 2 * x5 - 1) + stp b + x7 + x8 + x9 + 10) := by
  have h1 := h.floors
  have h2 := h.width
  have h7 := h.w7
  have h8 := h.w8
  have h9 := h.lag
  have hs := stp_le b
  have hp := h.prod (8 * x1 + 2 * x5 - 1) (by omega) (by omega)
  unfold paternosterref05_Limit.f
  rw [h.rcars_f k hk, h.rrun_f, rstops_f]
  simp only [Option.bind_some]
  rw [w64 (x := 2 * x5) (by omega) (by omega), w64 (x := 8 * x1 - 7 + 2 * x5) (by omega) (by omega), w64 (x := 8 * x1 - 7 + 2 * x5 + 6) (by omega) (by omega), show 8 * x1 - 7 + 2 * x5 + 6 = 8 * x1 + 2 * x5 - 1 by omega]
  generalize sumC l * (8 * x1 + 2 * x5 - 1) = p at hp ⊢
  rw [w64 (x := p) (by omega) (by omega), w64 (x := p + stp b) (by omega) (by omega), w64 (x := p + stp b + x7) (by omega) (by omega), w64 (x := p + stp b + x7 + x8) (by omega) (by omega), w64 (x := p + stp b + x7 + x8 + x9) (by omega) (by omega), w64 (by omega) (by omega)]
theorem Grp.rback_f (b : Int) : paternosterref05_Back.f (l.map toR) x1 x2 o x4 x5 x6 x7 x8 x9 x10 x11 x12 b = some (x7 + 8 * x1 + 3 * x5 + 2 * x8 + stp b + 23) := by
  have h1 := h.floors
  have h2 := h.width
  have h7 := h.w7
  have h8 := h.w8
  have hs := stp_le b
  unfold paternosterref05_Back.f
  rw [h.rrun_f, rstops_f]
  simp only [Option.bind_some]
  rw [w64 (x := x7 + (8 * x1 - 7)) (by omega) (by omega), w64 (x := 3 * x5) (by omega) (by omega), w64 (x := x7 + (8 * x1 - 7) + 3 * x5) (by omega) (by omega), w64 (x := 2 * x8) (by omega) (by omega), w64 (x := x7 + (8 * x1 - 7) + 3 * x5 + 2 * x8) (by omega) (by omega), w64 (x := x7 + (8 * x1 - 7) + 3 * x5 + 2 * x8 + stp b) (by omega) (by omega), w64 (by omega) (by omega)]
  congr 1; omega
end
end Go.Proofs.Ytomaojmccchibaa.X
