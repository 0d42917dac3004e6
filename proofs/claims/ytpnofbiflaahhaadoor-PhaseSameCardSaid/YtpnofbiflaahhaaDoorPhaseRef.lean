/- The document's Fits by its loops is the program's Fits by its counts. -/
import Derived.Test.YtpnofbiflaahhaaDoorPhasePlain
namespace Go.Proofs.YtpnofbiflaahhaaDoor.Pure
open Go.RowKit Go.Proofs.YtpnofbiflaahhaaDoor.X Go.Proofs.YtpnofbiflaahhaaDoorW.PrintWords Go.Proofs.YtpnofbiflaahhaaDoorW.PrintLast

def act (x : Int) : Bool := x == 2 || x == 4
def pairOk (l : List Int) (i j : Int) : Bool := (decide (i = j) || !(act (rd l i) && act (rd l j))) && (!(rd l i == 0) || (rd l j == 0 || rd l j == 5))

theorem inner_step (l : List Int) (hl : (l.length : Int) ≤ 1000) (i j : Int) (k : Nat) (h0 : 0 ≤ i) (h1 : i < (l.length : Int)) (h2 : 0 ≤ j) (h3 : j < (l.length : Int)) :
    paternosterref21_Fits.l1 (k + 2) l i j = if pairOk l i j = true then paternosterref21_Fits.l1 k l i (j + 1) else some false := by
  simp only [paternosterref21_Fits.l1, paternosterref21_Fits.j3]
  rw [if_pos h3, wrap_in (x := j + 1) (by omega) (by omega)]
  simp only [if_pos h0, if_pos h1, if_pos h2, if_pos h3]
  unfold pairOk act
  generalize rd l i = x
  generalize rd l j = y
  by_cases e : i = j
  · by_cases x0 : x = 0 <;> by_cases y0 : y = 0 <;> by_cases y5 : y = 5 <;> simp_all
  · by_cases x0 : x = 0
    · subst x0
      by_cases y0 : y = 0 <;> by_cases y5 : y = 5 <;> simp [e, y0, y5]
    · by_cases x2 : x = 2
      · subst x2
        by_cases y2 : y = 2
        · simp [e, y2]
        · by_cases y4 : y = 4 <;> simp [e, y2, y4]
      · by_cases x4 : x = 4
        · subst x4
          by_cases y2 : y = 2
          · simp [e, y2]
          · by_cases y4 : y = 4 <;> simp [e, y2, y4]
        · simp [e, x0, x2, x4]
theorem inner (l : List Int) (hl : (l.length : Int) ≤ 1000) (i : Int) (h0 : 0 ≤ i) (h1 : i < (l.length : Int)) (m : Nat) : ∀ (j : Int) (k : Nat), 0 ≤ j → (l.length : Int) - j = m →
    ((∀ j', j ≤ j' → j' < (l.length : Int) → pairOk l i j' = true) → paternosterref21_Fits.l1 (2 * m + 1 + k) l i j = paternosterref21_Fits.l0 k l (i + 1)) ∧
    (¬ (∀ j', j ≤ j' → j' < (l.length : Int) → pairOk l i j' = true) → paternosterref21_Fits.l1 (2 * m + 1 + k) l i j = some false) := by
  induction m with
  | zero =>
    intro j k hj hm
    refine ⟨fun _ => ?_, fun hn => absurd (fun j' a b => by omega) hn⟩
    rw [show 2 * 0 + 1 + k = k + 1 by omega]
    simp only [paternosterref21_Fits.l1]
    rw [if_neg (by omega), wrap_in (x := i + 1) (by omega) (by omega)]
  | succ m ih =>
    intro j k hj hm
    rw [show 2 * (m + 1) + 1 + k = (2 * m + 1 + k) + 2 by omega, inner_step l hl i j _ h0 h1 hj (by omega)]
    obtain ⟨ih1, ih2⟩ := ih (j + 1) k (by omega) (by omega)
    refine ⟨fun h => ?_, fun h => ?_⟩
    · rw [if_pos (h j (by omega) (by omega))]
      exact ih1 fun j' a b => h j' (by omega) b
    · by_cases hp : pairOk l i j = true
      · rw [if_pos hp]
        refine ih2 fun h' => h fun j' a b => ?_
        by_cases e : j' = j
        · rw [e]; exact hp
        · exact h' j' (by omega) b
      · rw [if_neg hp]
def okI (l : List Int) (i : Int) : Prop := isP (rd l i) ∧ ∀ j, 0 ≤ j → j < (l.length : Int) → pairOk l i j = true
theorem outer (l : List Int) (hl : (l.length : Int) ≤ 1000) (m : Nat) : ∀ (i : Int) (k : Nat), 0 ≤ i → (l.length : Int) - i = m →
    ((∀ i', i ≤ i' → i' < (l.length : Int) → okI l i') → paternosterref21_Fits.l0 (m * (2 * l.length + 3) + 1 + k) l i = some true) ∧
    (¬ (∀ i', i ≤ i' → i' < (l.length : Int) → okI l i') → paternosterref21_Fits.l0 (m * (2 * l.length + 3) + 1 + k) l i = some false) := by
  induction m with
  | zero =>
    intro i k hi hm
    refine ⟨fun _ => ?_, fun hn => absurd (fun j' a b => by omega) hn⟩
    rw [show 0 * (2 * l.length + 3) + 1 + k = k + 1 by omega]
    simp only [paternosterref21_Fits.l0]
    rw [if_neg (by omega)]
  | succ m ih =>
    intro i k hi hm
    have hlt : i < (l.length : Int) := by omega
    rw [show (m + 1) * (2 * l.length + 3) + 1 + k = (2 * l.length + 1 + (m * (2 * l.length + 3) + 1 + k)) + 2 by rw [Nat.add_mul]; omega]
    obtain ⟨ih1, ih2⟩ := ih (i + 1) k (by omega) (by omega)
    obtain ⟨n1, n2⟩ := inner l hl i hi hlt l.length 0 (m * (2 * l.length + 3) + 1 + k) (by omega) (by omega)
    simp only [paternosterref21_Fits.l0, paternosterref21_Fits.j1]
    rw [if_pos hlt, if_pos hi]
    by_cases hp : isP (rd l i)
    · have hp' := hp
      unfold isP at hp
      rw [if_neg (by omega), decide_eq_false (by omega)]
      simp only [Bool.false_eq_true, if_false]
      by_cases hq : ∀ j', 0 ≤ j' → j' < (l.length : Int) → pairOk l i j' = true
      · rw [n1 hq]
        refine ⟨fun h => ih1 fun i' a b => h i' (by omega) b, fun h => ih2 fun h' => h fun i' a b => ?_⟩
        by_cases e : i' = i
        · rw [e]; exact ⟨hp', hq⟩
        · exact h' i' (by omega) b
      · rw [n2 hq]
        exact ⟨fun h => absurd (h i (by omega) hlt).2 hq, fun _ => rfl⟩
    · refine ⟨fun h => absurd (h i (by omega) hlt).1 hp, fun _ => ?_⟩
      unfold isP at hp
      by_cases c : rd l i < 0
      · rw [if_pos c]; simp
      · rw [if_neg c, decide_eq_true (by omega)]; simp
theorem cnt24 (l : List Int) : cntI l 2 + cntI l 4 = (l.countP act : Int) := by
  unfold cntI
  induction l with
  | nil => rfl
  | cons x l ih =>
    simp only [List.count_cons, List.countP_cons, act] at *
    by_cases x2 : x = 2
    · subst x2; simp; omega
    · by_cases x4 : x = 4
      · subst x4; simp; omega
      · simp [x2, x4]; omega
theorem cnt05 (l : List Int) : cntI l 0 + cntI l 5 = (l.countP (fun x => x == 0 || x == 5) : Int) := by
  unfold cntI
  induction l with
  | nil => rfl
  | cons x l ih =>
    simp only [List.count_cons, List.countP_cons] at *
    by_cases x2 : x = 0
    · subst x2; simp; omega
    · by_cases x4 : x = 5
      · subst x4; simp; omega
      · simp [x2, x4]; omega
theorem count_le_one {α : Type} (p : α → Bool) (l : List α) : l.countP p ≤ 1 ↔ l.Pairwise (fun x y => ¬ (p x = true ∧ p y = true)) := by
  induction l with
  | nil => simp
  | cons x l ih =>
    rw [List.pairwise_cons, List.countP_cons]
    by_cases hx : p x = true
    · rw [if_pos hx]
      constructor
      · intro h
        have h0 : l.countP p = 0 := by omega
        rw [List.countP_eq_zero] at h0
        exact ⟨fun y hy hh => h0 y hy hh.2, ih.1 (by omega)⟩
      · rintro ⟨h1, h2⟩
        have h0 : l.countP p = 0 := List.countP_eq_zero.2 fun y hy hh => h1 y hy ⟨hx, hh⟩
        omega
    · rw [if_neg hx]
      constructor
      · intro h; exact ⟨fun y _ hh => hx hh.1, ih.1 (by omega)⟩
      · rintro ⟨_, h2⟩; have := ih.2 h2; omega
end Go.Proofs.YtpnofbiflaahhaaDoor.Pure
