/- Texts of this seat in one: ConfPlain, ConfPerm, ConfPre. -/
import Derived.Test.YtomaojmccchibaaConfCheck
import Derived.Test.YtomaojmccchibaaXx11
import Derived.Test.YtomaojmccchibaaXx12
import Derived.Test.YtomaojmccchibaaXx17
import Derived.Test.YtomaojmccchibaaXx19
/- What a group that may be is, in plain numbers, and how long things take. -/
namespace Go.Proofs.Ytomaojmccchibaa.X
open Go.RowKit Go.Proofs.YtomaojmccchibaaW.PrintWords Go.Proofs.YtomaojmccchibaaW.PrintLast Go.Proofs.YtomaojmccchibaaW.PrintMore
set_option linter.unusedVariables false
set_option linter.unusedSimpArgs false

theorem w64 {x : Int} (h0 : -1000000000000000000 ≤ x) (h1 : x ≤ 1000000000000000000) : wrap64 x = x := by unfold wrap64; omega
theorem inV_t {x a b : Int} : inV x a b = true ↔ a ≤ x ∧ x ≤ b := by unfold inV; simp
/-- A group that may be. -/
structure Grp (l : List S38) (x1 x2 : Int) (o : List Int) (x4 x5 x6 x7 x8 x9 x10 x11 x12 : Int) : Prop where
  n1 : 1 ≤ l.length
  n2 : l.length ≤ 8
  bank : ∀ b ∈ l, (1 ≤ b.f0 ∧ b.f0 ≤ 8) ∧ Ok b.f1
  floors : 2 ≤ x1 ∧ x1 ≤ 32
  home : 0 ≤ x2 ∧ x2 ≤ x1 - 1
  speed : 1 ≤ x4 ∧ x4 ≤ 8
  width : 1 ≤ x5 ∧ x5 ≤ 16
  w6 : 1 ≤ x6 ∧ x6 ≤ 200
  w7 : 1 ≤ x7 ∧ x7 ≤ 200
  w8 : 1 ≤ x8 ∧ x8 ≤ 200
  w10 : 1 ≤ x10 ∧ x10 ≤ 200
  lag : 0 ≤ x9 ∧ x9 ≤ 8
  cost : 0 ≤ x11 ∧ x11 ≤ 100
  full : 0 ≤ x12 ∧ x12 ≤ 1048576
  ord : ordV l o = true
theorem badB_t {l : List S38} : (!l.any badB) = true ↔ ∀ b ∈ l, (1 ≤ b.f0 ∧ b.f0 ≤ 8) ∧ Ok b.f1 := by
  rw [Bool.not_eq_true', List.any_eq_false]
  refine forall_congr' fun b => forall_congr' fun _ => ?_
  unfold badB
  rw [Bool.not_eq_true, Bool.or_eq_false_iff, Bool.not_eq_false', Bool.not_eq_false', inV_t, decide_eq_true_eq]
theorem badI_t {x6 x7 x8 x10 : Int} : (!([x6, x7, x8, x10] : List Int).any badI) = true ↔ (1 ≤ x6 ∧ x6 ≤ 200) ∧ (1 ≤ x7 ∧ x7 ≤ 200) ∧ (1 ≤ x8 ∧ x8 ≤ 200) ∧ (1 ≤ x10 ∧ x10 ≤ 200) := by
  rw [Bool.not_eq_true', List.any_eq_false]
  have e : ∀ x, (¬ badI x = true) ↔ (1 ≤ x ∧ x ≤ 200) := fun x => by
    unfold badI
    rw [Bool.not_eq_true, Bool.not_eq_false', inV_t]
  simp only [e, List.mem_cons, List.not_mem_nil, or_false, forall_eq_or_imp, forall_eq]
section
variable {l : List S38} {x1 x2 : Int} {o : List Int} {x4 x5 x6 x7 x8 x9 x10 x11 x12 : Int}
theorem check_iff : checkV l x1 x2 o x4 x5 x6 x7 x8 x9 x10 x11 x12 = true ↔ Grp l x1 x2 o x4 x5 x6 x7 x8 x9 x10 x11 x12 := by
  unfold checkV
  simp only [Bool.and_eq_true, badB_t, badI_t, inV_t]
  constructor
  · rintro ⟨⟨a1, a2⟩, a3, ⟨a4, a5⟩, ⟨a6, a7⟩, ⟨a8, a9, a10, a11⟩, ⟨⟨a12, a13⟩, a14⟩, a15⟩
    rw [w64 (by omega) (by omega)] at a5
    exact ⟨by omega, by omega, a3, a4, a5, a6, a7, a8, a9, a10, a11, a12, a13, a14, a15⟩
  · intro h
    have := h.floors
    rw [w64 (x := x1 - 1) (by omega) (by omega)]
    exact ⟨⟨by have := h.n1; omega, by have := h.n2; omega⟩, h.bank, ⟨h.floors, h.home⟩, ⟨h.speed, h.width⟩, ⟨h.w6, h.w7, h.w8, h.w10⟩, ⟨⟨h.lag, h.cost⟩, h.full⟩, h.ord⟩
theorem chk_f (ho : o.length ≤ 100) : conf_Check.f l x1 x2 o x4 x5 x6 x7 x8 x9 x10 x11 x12 = some (checkV l x1 x2 o x4 x5 x6 x7 x8 x9 x10 x11 x12) := by
  unfold conf_Check.f
  rw [if_pos (by have : (100 : Nat) ≤ maxLen := by decide
                 omega)]
theorem small_f : paternosterlaw05_small.f l x1 x2 o x4 x5 x6 x7 x8 x9 x10 x11 x12 = some (decide (l.length ≤ 12) && decide (o.length ≤ 100)) := by
  unfold paternosterlaw05_small.f
  by_cases h : l.length ≤ 12
  · rw [if_pos (by omega), decide_eq_true h]
    simp only [Bool.true_and]
    exact congrArg some (decide_eq_decide.2 (by omega))
  · rw [if_neg (by omega), decide_eq_false h]; rfl
end
/-- All cars. -/
def sumC (l : List S38) : Int := (l.map (·.f0)).sum
theorem cars_fold (l : List S38) : ∀ (x : Int), (∀ b ∈ l, 0 ≤ b.f0 ∧ b.f0 ≤ 8) → 0 ≤ x → x + 8 * l.length ≤ 1000000000 → l.foldl (fun n b => wrap64 (n + b.f0)) x = x + sumC l := by
  induction l with
  | nil => intro x _ _ _; simp [sumC]
  | cons b l ih =>
    intro x hb h0 h1
    have h2 := hb b (by simp)
    simp only [List.length_cons] at h1
    rw [List.foldl_cons, w64 (by omega) (by omega), ih _ (fun c hc => hb c (by simp [hc])) (by omega) (by omega)]
    simp only [sumC, List.map_cons, List.sum_cons]; omega
theorem sumC_le (l : List S38) (h : ∀ b ∈ l, 1 ≤ b.f0 ∧ b.f0 ≤ 8) : (l.length : Int) ≤ sumC l ∧ sumC l ≤ 8 * l.length := by
  induction l with
  | nil => simp [sumC]
  | cons b l ih =>
    have h2 := h b (by simp)
    have h3 := ih (fun c hc => h c (by simp [hc]))
    simp only [sumC, List.map_cons, List.sum_cons, List.length_cons] at h3 ⊢; omega
theorem Grp.cars {l : List S38} {x1 x2 : Int} {o : List Int} {x4 x5 x6 x7 x8 x9 x10 x11 x12 : Int} (h : Grp l x1 x2 o x4 x5 x6 x7 x8 x9 x10 x11 x12) : carsV l = sumC l ∧ 1 ≤ sumC l ∧ sumC l ≤ 64 := by
  have h1 := h.n1
  have h2 := h.n2
  have h3 := sumC_le l (fun b hb => (h.bank b hb).1)
  refine ⟨?_, by omega, by omega⟩
  unfold carsV
  rw [cars_fold l 0 (fun b hb => by have := (h.bank b hb).1; omega) (by omega) (by omega)]; omega
/-! Sums. -/
theorem bnd_small {x : Int} (h0 : 0 ≤ x) (h1 : x ≤ 1000000000000) : bnd x = x := by
  unfold bnd mx mn
  rw [if_neg (by omega), if_neg (by omega)]
theorem add_small {a b : Int} (ha : 0 ≤ a) (hb : 0 ≤ b) (h : a + b ≤ 1000000000000) : sat_Add.f a b = some (a + b, false) := by
  unfold sat_Add.f addV addM met
  rw [bnd_small ha (by omega), bnd_small hb (by omega), w64 (by omega) (by omega), bnd_small (by omega) h]
  simp
theorem sum_pos {l : List Int} (h : ∀ x ∈ l, 0 ≤ x) : 0 ≤ l.sum := by
  induction l with
  | nil => simp
  | cons x l ih =>
    have h1 := h x (by simp)
    have h2 := ih (fun y hy => h y (by simp [hy]))
    rw [List.sum_cons]; omega
theorem sum_loop (l : List Int) (hl : l.length ≤ 1000) (hp : ∀ x ∈ l, 0 ≤ x) (d : Nat) : ∀ (k : Nat) (x i : Int), 0 ≤ i → (l.length : Int) - i = d → d < k → 0 ≤ x → x + (l.drop i.toNat).sum ≤ 1000000000000 →
    sat_Sum.l0 k x false l (l.length : Int) i = some (x + (l.drop i.toNat).sum, false) := by
  induction d with
  | zero =>
    intro k x i h0 hd hk hx hs
    obtain ⟨k, rfl⟩ : ∃ m, k = m + 1 := ⟨k - 1, by omega⟩
    simp only [sat_Sum.l0]
    rw [if_neg (by omega), List.drop_eq_nil_of_le (by omega)]; simp
  | succ d ih =>
    intro k x i h0 hd hk hx hs
    obtain ⟨k, rfl⟩ : ∃ m, k = m + 1 := ⟨k - 1, by omega⟩
    have hi : i.toNat < l.length := by omega
    have e : l.drop i.toNat = l[i.toNat] :: l.drop (i + 1).toNat := by rw [List.drop_eq_getElem_cons hi, show (i + 1).toNat = i.toNat + 1 by omega]
    have er : rd l i = l[i.toNat] := by
      have := rdI_at hi
      rwa [show ((i.toNat : Nat) : Int) = i by omega] at this
    have h1 : 0 ≤ l[i.toNat] := hp _ (List.getElem_mem hi)
    have h2 := sum_pos (l := l.drop (i + 1).toNat) (fun y hy => hp y (List.mem_of_mem_drop hy))
    rw [e, List.sum_cons] at hs ⊢
    simp only [sat_Sum.l0]
    rw [if_pos (by omega), if_pos h0, if_pos (by omega), er, add_small hx h1 (by omega), Option.bind_some, if_neg (by simp), w64 (x := i + 1) (by omega) (by omega)]
    rw [ih k _ (i + 1) (by omega) (by omega) (by omega) (by omega) (by omega)]
    congr 2; omega
theorem copy_loop (l : List Int) (hl : l.length ≤ 1000) (d : Nat) : ∀ (m : Nat) (acc : List Int) (i : Int), 0 ≤ i → (l.length : Int) - i = d → acc.length ≤ i.toNat →
    conf_sum.l0 (d + 1 + m) acc l (l.length : Int) i = (sat_Sum.f m (acc ++ l.drop i.toNat)).bind fun r => some r.1 := by
  induction d with
  | zero =>
    intro m acc i h0 hd ha
    rw [show 0 + 1 + m = m + 1 by omega]
    simp only [conf_sum.l0]
    rw [if_neg (by omega), List.drop_eq_nil_of_le (by omega), List.append_nil]
  | succ d ih =>
    intro m acc i h0 hd ha
    rw [show d + 1 + 1 + m = (d + 1 + m) + 1 by omega]
    have hi : i.toNat < l.length := by omega
    have e : l.drop i.toNat = l[i.toNat] :: l.drop (i + 1).toNat := by rw [List.drop_eq_getElem_cons hi, show (i + 1).toNat = i.toNat + 1 by omega]
    have er : rd l i = l[i.toNat] := by
      have := rdI_at hi
      rwa [show ((i.toNat : Nat) : Int) = i by omega] at this
    rw [e]
    simp only [conf_sum.l0]
    rw [if_pos (by omega), if_pos h0, if_pos (by omega), if_pos (by omega), er, w64 (x := i + 1) (by omega) (by omega)]
    rw [ih m _ (i + 1) (by omega) (by omega) (by simp; omega)]
    simp
theorem csum (l : List Int) (k : Nat) (hl : l.length ≤ 1000) (hk : 2 * l.length + 2 ≤ k) (hp : ∀ x ∈ l, 0 ≤ x) (hs : l.sum ≤ 1000000000000) : conf_sum.f k l = some l.sum := by
  obtain ⟨m, rfl⟩ : ∃ m, k = l.length + 1 + m := ⟨k - (l.length + 1), by omega⟩
  unfold conf_sum.f
  rw [copy_loop l hl l.length m [] 0 (by omega) (by omega) (by simp)]
  unfold sat_Sum.f
  have h := sum_loop l hl hp l.length m 0 0 (by omega) (by omega) (by omega) (by omega) (by simpa using hs)
  simp only [List.nil_append, show (0 : Int).toNat = 0 from rfl, List.drop_zero] at h ⊢
  rw [h]; simp
/-- Blocked ticks, within bounds. -/
def stp (b : Int) : Int := mn (mx b 0) 1000000
theorem stp_le (b : Int) : 0 ≤ stp b ∧ stp b ≤ 1000000 := by
  unfold stp mx mn
  repeat' split
  all_goals omega
section
variable {l : List S38} {x1 x2 : Int} {o : List Int} {x4 x5 x6 x7 x8 x9 x10 x11 x12 : Int} (h : Grp l x1 x2 o x4 x5 x6 x7 x8 x9 x10 x11 x12) (k : Nat) (hk : 30 ≤ k)
include h hk
theorem Grp.cars_f : conf_Cars.f k l x1 x2 o x4 x5 x6 x7 x8 x9 x10 x11 x12 = some (sumC l) := by
  have := h.n2
  rw [Go.Proofs.Ytomaojmccchibaa.X.cars_f l (by omega) k (by omega), h.cars.1]
theorem Grp.run_f : conf_Run.f k l x1 x2 o x4 x5 x6 x7 x8 x9 x10 x11 x12 = some (8 * x1 - 7) := by
  have := h.floors
  unfold conf_Run.f
  rw [w64 (x := x1 - 1) (by omega) (by omega), w64 (by omega) (by omega), csum _ k (by simp) (by simp; omega) (by simp; omega) (by simp; omega)]
  simp; omega
theorem Grp.doors_f : conf_Doors.f k l x1 x2 o x4 x5 x6 x7 x8 x9 x10 x11 x12 = some (x5 + 1) := by
  have := h.width
  unfold conf_Doors.f
  rw [csum _ k (by simp) (by simp; omega) (by simp; omega) (by simp; omega)]
  simp
omit hk in
theorem Grp.prod (a : Int) (h0 : 0 ≤ a) (h1 : a ≤ 1000) : 0 ≤ sumC l * a ∧ sumC l * a ≤ 64000 := by
  obtain ⟨_, c1, c2⟩ := h.cars
  have e1 : 0 ≤ sumC l * a := Int.mul_nonneg (by omega) h0
  have e2 : sumC l * a ≤ 64 * a := Int.mul_le_mul_of_nonneg_right c2 h0
  omega
theorem Grp.limit_f (b : Int) : conf_Limit.f k l x1 x2 o x4 x5 x6 x7 x8 x9 x10 x11 x12 b = some (sumC l * (8 * x1 + 2 * x5 - 1) + stp b + x7 + x8 + x9 + 10) := by
  have h1 := h.floors
  have h2 := h.width
  have h7 := h.w7
  have h8 := h.w8
  have h9 := h.lag
  have hs := stp_le b
  have hp := h.prod (8 * x1 + 2 * x5 - 1) (by omega) (by omega)
  unfold conf_Limit.f conf_stops.f
  rw [h.cars_f k hk, h.run_f k hk, h.doors_f k hk]
  simp only [Option.bind_some]
  rw [w64 (x := 2 * (x5 + 1)) (by omega) (by omega), csum _ k (by simp) (by simp; omega) (by simp; omega) (by simp; omega)]
  simp only [Option.bind_some, List.sum_cons, List.sum_nil]
  rw [show 8 * x1 - 7 + (2 * (x5 + 1) + (4 + 0)) = 8 * x1 + 2 * x5 - 1 by omega]
  change (conf_sum.f k [wrap64 (sumC l * (8 * x1 + 2 * x5 - 1)), stp b, x7, x8, x9, 10]).bind _ = _
  rw [w64 (x := sumC l * (8 * x1 + 2 * x5 - 1)) (by omega) (by omega), csum _ k (by simp) (by simp; omega) (by simp; omega) (by simp; omega)]
  simp only [Option.bind_some, List.sum_cons, List.sum_nil]
  congr 1; omega
theorem Grp.back_f (b : Int) : conf_Back.f k l x1 x2 o x4 x5 x6 x7 x8 x9 x10 x11 x12 b = some (x7 + 8 * x1 + 3 * x5 + 2 * x8 + stp b + 23) := by
  have h1 := h.floors
  have h2 := h.width
  have h7 := h.w7
  have h8 := h.w8
  have hs := stp_le b
  unfold conf_Back.f conf_stops.f
  rw [h.run_f k hk, h.doors_f k hk]
  simp only [Option.bind_some]
  change (conf_sum.f k [x7, 8 * x1 - 7, wrap64 (2 * (x5 + 1)), 8, x5, wrap64 (2 * x8), stp b, 20]).bind _ = _
  rw [w64 (x := 2 * (x5 + 1)) (by omega) (by omega), w64 (x := 2 * x8) (by omega) (by omega), csum _ k (by simp) (by simp; omega) (by simp; omega) (by simp; omega)]
  simp only [Option.bind_some, List.sum_cons, List.sum_nil]
  congr 1; omega
omit hk in
theorem Grp.saves_le : 0 ≤ x11 * (8 + x5) ∧ x11 * (8 + x5) ≤ 2400 := by
  have h2 := h.width
  have h3 := h.cost
  have e1 : 0 ≤ x11 * (8 + x5) := Int.mul_nonneg (by omega) (by omega)
  have e2 : x11 * (8 + x5) ≤ 100 * (8 + x5) := Int.mul_le_mul_of_nonneg_right (by omega) (by omega)
  omega
theorem Grp.saves_f : conf_Saves.f k l x1 x2 o x4 x5 x6 x7 x8 x9 x10 x11 x12 = some (x11 * (8 + x5)) := by
  have h2 := h.width
  have h3 := h.saves_le
  unfold conf_Saves.f
  rw [csum _ k (by simp) (by simp; omega) (by simp; omega) (by simp; omega)]
  simp only [Option.bind_some, List.sum_cons, List.sum_nil, Int.add_zero]
  rw [w64 (by omega) (by omega)]
end
end Go.Proofs.Ytomaojmccchibaa.X
/- The order of a group, turned: each car once. -/
namespace Go.Proofs.Ytomaojmccchibaa.X
open Go.RowKit Go.Proofs.YtomaojmccchibaaW.PrintWords Go.Proofs.YtomaojmccchibaaW.PrintLast Go.Proofs.YtomaojmccchibaaW.PrintMore
set_option linter.unusedVariables false
set_option linter.unusedSimpArgs false

theorem nodup_addN (l : List Int) : ∀ L : List Int, L.Nodup → (l.foldl addN L).Nodup := by
  induction l with
  | nil => intro L h; exact h
  | cons y l ih =>
    intro L h
    rw [List.foldl_cons]
    refine ih _ ?_
    unfold addN
    by_cases hc : L.contains y = true
    · rw [if_pos hc]; exact h
    · rw [if_neg hc, List.nodup_append]
      refine ⟨h, by simp, ?_⟩
      intro a ha b hb
      rw [List.mem_singleton] at hb
      subst hb
      rintro rfl
      exact hc (List.contains_iff_mem.2 ha)
theorem distN_le {a b : List Int} (h : a ⊆ b) : distN a ≤ distN b := by
  unfold distN
  refine (nodup_addN a [] List.nodup_nil).length_le_of_subset fun x hx => ?_
  rw [mem_addN] at hx ⊢
  exact hx.imp id (fun h1 => h h1)
theorem distN_eq {a b : List Int} (h : ∀ x, x ∈ a ↔ x ∈ b) : distN a = distN b :=
  Nat.le_antisymm (distN_le fun x hx => (h x).1 hx) (distN_le fun x hx => (h x).2 hx)
theorem ordV_perm {l : List S38} {a b : List Int} (h : a.Perm b) : ordV l a = ordV l b := by
  unfold ordV
  rw [h.all_eq, h.length_eq, distN_eq (a := a) (b := b) (fun x => h.mem_iff)]
theorem checkV_perm {l : List S38} {x1 x2 : Int} {o o' : List Int} {x4 x5 x6 x7 x8 x9 x10 x11 x12 : Int} (h : o.Perm o') : checkV l x1 x2 o x4 x5 x6 x7 x8 x9 x10 x11 x12 = checkV l x1 x2 o' x4 x5 x6 x7 x8 x9 x10 x11 x12 := by
  unfold checkV; rw [ordV_perm h]
/-- An order that begins elsewhere. -/
def rotL (o : List Int) (k : Nat) : List Int := o.drop k ++ o.take k
theorem rotL_perm (o : List Int) (k : Nat) : o.Perm (rotL o k) := by
  have := List.perm_append_comm (l₁ := o.take k) (l₂ := o.drop k)
  rwa [List.take_append_drop] at this
theorem rotL_len (o : List Int) (k : Nat) : (rotL o k).length = o.length := (rotL_perm o k).length_eq.symm
theorem rotL_at {o : List Int} {k i : Nat} (hk : k < o.length) (hi : i < o.length) (hr : i < (rotL o k).length) : (rotL o k)[i] = rd o (((i + k) % o.length : Nat) : Int) := by
  have hm : (i + k) % o.length < o.length := Nat.mod_lt _ (by omega)
  rw [rdI_at hm]
  simp only [rotL]
  by_cases h : i < o.length - k
  · rw [List.getElem_append_left (by simp; omega), List.getElem_drop]
    congr 1
    rw [Nat.mod_eq_of_lt (by omega)]; omega
  · rw [List.getElem_append_right (by simp; omega), List.getElem_take]
    congr 1
    rw [List.length_drop, show i + k = (i + k - o.length) + o.length by omega, Nat.add_mod_right, Nat.mod_eq_of_lt (by omega)]; omega
end Go.Proofs.Ytomaojmccchibaa.X
/- Cars of the first banks. -/
namespace Go.Proofs.Ytomaojmccchibaa.X
open Go.RowKit Go.Proofs.YtomaojmccchibaaW.PrintWords Go.Proofs.YtomaojmccchibaaW.PrintLast Go.Proofs.YtomaojmccchibaaW.PrintMore
set_option linter.unusedVariables false
set_option linter.unusedSimpArgs false

/-- Cars of the first banks. -/
def pre (l : List S38) (i : Nat) : Int := sumC (l.take i)
theorem pre_succ {l : List S38} {i : Nat} (h : i < l.length) : pre l (i + 1) = pre l i + (rd_T38 l (i : Int)).f0 := by
  unfold pre sumC
  rw [List.take_succ_eq_append_getElem h, rdT_at h, List.map_append, List.sum_append]; simp
theorem pre_len (l : List S38) : pre l l.length = sumC l := by unfold pre; rw [List.take_length]
theorem rdT_b {l : List S38} (hb : ∀ b ∈ l, 1 ≤ b.f0 ∧ b.f0 ≤ 8) {i : Nat} (h : i < l.length) : 1 ≤ (rd_T38 l (i : Int)).f0 ∧ (rd_T38 l (i : Int)).f0 ≤ 8 := by
  rw [rdT_at h]; exact hb _ (List.getElem_mem h)
theorem pre_lt {l : List S38} (hb : ∀ b ∈ l, 1 ≤ b.f0 ∧ b.f0 ≤ 8) (d : Nat) : ∀ i : Nat, i + d ≤ l.length → pre l i + d ≤ pre l (i + d) := by
  induction d with
  | zero => intro i _; simp
  | succ d ih =>
    intro i h
    have h1 := ih i (by omega)
    have h2 := pre_succ (l := l) (i := i + d) (by omega)
    have h3 := rdT_b hb (i := i + d) (by omega)
    rw [show i + (d + 1) = i + d + 1 by omega]; omega
end Go.Proofs.Ytomaojmccchibaa.X
