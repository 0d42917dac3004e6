/- fitsB (counts) and the document's loops say the same. -/
import Derived.Test.YtpnofbiflaahhaaDoorPhaseRef
namespace Go.Proofs.YtpnofbiflaahhaaDoor.Pure
open Go.RowKit Go.Proofs.YtpnofbiflaahhaaDoor.X Go.Proofs.YtpnofbiflaahhaaDoorW.PrintWords Go.Proofs.YtpnofbiflaahhaaDoorW.PrintLast

theorem rd_nat (l : List Int) (i : Nat) (h : i < l.length) : rd l (i : Int) = l[i] := by
  unfold rd
  rw [Int.toNat_natCast, List.getD_eq_getElem?_getD, List.getElem?_eq_getElem h]
  rfl
theorem rd_mem (l : List Int) (i : Int) (h0 : 0 ≤ i) (h1 : i < (l.length : Int)) : rd l i ∈ l := by
  obtain ⟨n, rfl⟩ : ∃ n : Nat, i = n := ⟨i.toNat, by omega⟩
  rw [rd_nat l n (by omega)]
  exact List.getElem_mem _
theorem mem_rd (l : List Int) (x : Int) (h : x ∈ l) : ∃ i : Int, 0 ≤ i ∧ i < (l.length : Int) ∧ rd l i = x := by
  obtain ⟨n, hn, rfl⟩ := List.getElem_of_mem h
  exact ⟨n, by omega, by omega, rd_nat l n hn⟩
theorem fits_iff (l : List Int) : fitsB l = true ↔ ∀ i', 0 ≤ i' → i' < (l.length : Int) → okI l i' := by
  have eb : fitsB l = true ↔ (∀ x ∈ l, isP x) ∧ (cntI l 0 = 0 ∨ cntI l 0 + cntI l 5 = (l.length : Int)) ∧ cntI l 2 + cntI l 4 ≤ 1 := by
    unfold fitsB
    simp only [Bool.and_eq_true, List.all_eq_true, decide_eq_true_eq]
  rw [eb, cnt24, cnt05]
  have e2 : ((l.countP act : Int) ≤ 1) ↔ l.Pairwise (fun x y => ¬ (act x = true ∧ act y = true)) := by
    rw [← count_le_one]; omega
  have e1 : ((l.countP (fun x => x == 0 || x == 5) : Int) = (l.length : Int)) ↔ ∀ x ∈ l, x = 0 ∨ x = 5 := by
    rw [Int.ofNat_inj, List.countP_eq_length]
    simp
  have e0 : cntI l 0 = 0 ↔ (0 : Int) ∉ l := by
    unfold cntI
    rw [← List.count_eq_zero]; omega
  rw [e2, e1, e0]
  constructor
  · rintro ⟨hp, h05, hpw⟩ i h0 h1
    refine ⟨hp _ (rd_mem l i h0 h1), fun j g0 g1 => ?_⟩
    unfold pairOk
    rw [Bool.and_eq_true]
    constructor
    · by_cases e : i = j
      · simp [e]
      · obtain ⟨a, rfl⟩ : ∃ n : Nat, i = n := ⟨i.toNat, by omega⟩
        obtain ⟨b, rfl⟩ : ∃ n : Nat, j = n := ⟨j.toNat, by omega⟩
        rw [List.pairwise_iff_getElem] at hpw
        rw [rd_nat l a (by omega), rd_nat l b (by omega)]
        have hh : ¬ (act l[a] = true ∧ act l[b] = true) := by
          rcases Nat.lt_or_gt_of_ne (show a ≠ b by omega) with hab | hab
          · exact hpw a b (by omega) (by omega) hab
          · exact fun hh => hpw b a (by omega) (by omega) hab ⟨hh.2, hh.1⟩
        cases ha : act l[a] <;> cases hb : act l[b] <;> simp_all
    · by_cases x0 : rd l i = 0
      · have hm := rd_mem l i h0 h1
        rw [x0] at hm
        rcases h05 with h | h
        · exact absurd hm h
        · rcases h _ (rd_mem l j g0 g1) with e | e <;> simp [e]
      · simp [x0]
  · intro h
    refine ⟨fun x hx => ?_, ?_, ?_⟩
    · obtain ⟨i, h0, h1, rfl⟩ := mem_rd l x hx
      exact (h i h0 h1).1
    · by_cases hm : (0 : Int) ∈ l
      · right
        intro x hx
        obtain ⟨i, h0, h1, e⟩ := mem_rd l 0 hm
        obtain ⟨j, g0, g1, rfl⟩ := mem_rd l x hx
        have := (h i h0 h1).2 j g0 g1
        unfold pairOk at this
        rw [Bool.and_eq_true] at this
        have h2 := this.2
        rw [e] at h2
        simpa using h2
      · exact Or.inl hm
    · rw [List.pairwise_iff_getElem]
      intro a b ha hb hab hh
      have := (h a (by omega) (by omega)).2 b (by omega) (by omega)
      unfold pairOk at this
      rw [Bool.and_eq_true] at this
      have h1 := this.1
      rw [rd_nat l a ha, rd_nat l b hb, hh.1, hh.2] at h1
      simp at h1
      omega
theorem fits_ref (l : List Int) (hl : l.length ≤ 1000) (k : Nat) : paternosterref21_Fits.f (l.length * (2 * l.length + 3) + 1 + k) l = some (fitsB l) := by
  unfold paternosterref21_Fits.f
  obtain ⟨h1, h2⟩ := outer l (by omega) l.length 0 k (by omega) (by omega)
  by_cases h : ∀ i', 0 ≤ i' → i' < (l.length : Int) → okI l i'
  · rw [h1 h, (fits_iff l).2 h]
  · rw [h2 h]
    cases e : fitsB l with
    | false => rfl
    | true => exact absurd ((fits_iff l).1 e) h
theorem fits_ref' (l : List Int) (hl : l.length ≤ 80) (k : Nat) (hk : 20000 ≤ k) : paternosterref21_Fits.f k l = some (fitsB l) := by
  have hb : l.length * (2 * l.length + 3) ≤ 80 * 163 := Nat.mul_le_mul hl (by omega)
  obtain ⟨m, rfl⟩ : ∃ m, k = l.length * (2 * l.length + 3) + 1 + m := ⟨k - (l.length * (2 * l.length + 3) + 1), by omega⟩
  exact fits_ref l (by omega) m

/-! ### Follows -/
def allMay (a b : List Int) (i : Int) : Prop := ∀ j, i ≤ j → j < (a.length : Int) → mayB (rd a j) (rd b j) = true
theorem follows_loop (a b : List Int) (hl : (a.length : Int) ≤ 1000) (he : a.length = b.length) (m : Nat) : ∀ (i : Int) (k : Nat), 0 ≤ i → (a.length : Int) - i = m → m + 3 ≤ k →
    ((allMay a b i → phase_Follows.l0 k a b (a.length : Int) i = some true) ∧ (¬ allMay a b i → phase_Follows.l0 k a b (a.length : Int) i = some false)) ∧
    ((allMay a b i → paternosterref21_Follows.l0 k a b i = some true) ∧ (¬ allMay a b i → paternosterref21_Follows.l0 k a b i = some false)) := by
  induction m with
  | zero =>
    intro i k hi hm hk
    obtain ⟨k, rfl⟩ : ∃ n, k = n + 1 := ⟨k - 1, by omega⟩
    simp only [phase_Follows.l0, paternosterref21_Follows.l0]
    rw [if_neg (by omega), if_neg (by omega)]
    exact ⟨⟨fun _ => rfl, fun h => absurd (fun j p q => by omega) h⟩, ⟨fun _ => rfl, fun h => absurd (fun j p q => by omega) h⟩⟩
  | succ m ih =>
    intro i k hi hm hk
    obtain ⟨k, rfl⟩ : ∃ n, k = n + 3 := ⟨k - 3, by omega⟩
    have hlt : i < (a.length : Int) := by omega
    have hlt' : i < (b.length : Int) := by omega
    obtain ⟨⟨p1, p2⟩, ⟨p3, p4⟩⟩ := ih (i + 1) (k + 2) (by omega) (by omega) (by omega)
    unfold phase_Follows.l0 paternosterref21_Follows.l0
    rw [if_pos hlt, if_pos hlt, if_pos hi, if_pos hi, if_pos hlt, if_pos hlt', if_pos hlt', may_ref k, wrap_in (x := i + 1) (by omega) (by omega)]
    simp only [phase_May.f, Option.bind_some]
    by_cases hp : mayB (rd a i) (rd b i) = true
    · rw [if_pos hp, if_pos hp]
      have up : allMay a b (i + 1) → allMay a b i := fun h j x y => by
        by_cases e : j = i
        · rw [e]; exact hp
        · exact h j (by omega) y
      have dn : allMay a b i → allMay a b (i + 1) := fun h j x y => h j (by omega) y
      exact ⟨⟨fun h => p1 (dn h), fun h => p2 fun h' => h (up h')⟩, ⟨fun h => p3 (dn h), fun h => p4 fun h' => h (up h')⟩⟩
    · rw [if_neg hp, if_neg hp]
      exact ⟨⟨fun h => absurd (h i (by omega) hlt) hp, fun _ => rfl⟩, ⟨fun h => absurd (h i (by omega) hlt) hp, fun _ => rfl⟩⟩
open Classical in
noncomputable def followsB (a b : List Int) : Bool := decide (a.length = b.length) && (fitsB a && (fitsB b && decide (allMay a b 0)))
theorem follows_eq (a b : List Int) (ha : a.length ≤ 1000) (hb : b.length ≤ 1000) (k : Nat) (hk : 2000 ≤ k) : phase_Follows.f k a b = some (followsB a b) := by
  obtain ⟨k, rfl⟩ : ∃ n, k = n + 1 := ⟨k - 1, by omega⟩
  unfold phase_Follows.f followsB
  by_cases he : a.length = b.length
  · rw [if_pos (by omega), phase_Fits.f, if_pos ha, phase_Fits.f, if_pos hb]
    simp only [Option.bind_some]
    obtain ⟨⟨p1, p2⟩, _⟩ := follows_loop a b (by omega) he a.length 0 k (by omega) (by omega) (by omega)
    cases fa : fitsB a
    · simp [phase_Follows.j0]
    · cases fb : fitsB b
      · simp [phase_Follows.j0]
      · simp only [if_true, phase_Follows.j0, Bool.not_true, Bool.false_eq_true, if_false]
        by_cases h : allMay a b 0
        · rw [p1 h]; simp [he, h]
        · rw [p2 h]; simp [h]
  · rw [if_neg (by omega)]
    simp [phase_Follows.j0, he]
theorem follows_ref (a b : List Int) (ha : a.length ≤ 80) (hb : b.length ≤ 80) (k : Nat) (hk : 20001 ≤ k) : paternosterref21_Follows.f k a b = some (followsB a b) := by
  obtain ⟨k, rfl⟩ : ∃ n, k = n + 1 := ⟨k - 1, by omega⟩
  unfold paternosterref21_Follows.f followsB
  rw [fits_ref' a ha _ (by omega), fits_ref' b hb _ (by omega)]
  simp only [Option.bind_some]
  by_cases he : a.length = b.length
  · rw [if_pos (by omega)]
    obtain ⟨_, ⟨p1, p2⟩⟩ := follows_loop a b (by omega) he a.length 0 k (by omega) (by omega) (by omega)
    cases fa : fitsB a
    · simp [paternosterref21_Follows.j0]
    · cases fb : fitsB b
      · simp [paternosterref21_Follows.j0]
      · simp only [if_true, paternosterref21_Follows.j0, Bool.not_true, Bool.false_eq_true, if_false]
        by_cases h : allMay a b 0
        · rw [p1 h]; simp [he, h]
        · rw [p2 h]; simp [h]
  · rw [if_neg (by omega)]
    simp [paternosterref21_Follows.j0, he]
end Go.Proofs.YtpnofbiflaahhaaDoor.Pure
