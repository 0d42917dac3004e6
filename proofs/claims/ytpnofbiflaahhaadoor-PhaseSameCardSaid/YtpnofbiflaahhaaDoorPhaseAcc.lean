/- What Accept tells: the number of rows that follow each other. -/
import Derived.Test.YtpnofbiflaahhaaDoorPhaseFitsEq
namespace Go.Proofs.YtpnofbiflaahhaaDoor.Pure
open Go.RowKit Go.Proofs.YtpnofbiflaahhaaDoor.X Go.Proofs.YtpnofbiflaahhaaDoorW.PrintWords Go.Proofs.YtpnofbiflaahhaaDoorW.PrintLast

noncomputable def okR (rows : List (List Int)) (i : Nat) : Bool := if i = 0 then fitsB (rows.getD 0 []) else followsB (rows.getD (i - 1) []) (rows.getD i [])
def pre (rows : List (List Int)) (n : Nat) : Prop := ∀ i, i < n → okR rows i = true
def IsAcc (rows : List (List Int)) (N : Nat) : Prop := N ≤ rows.length ∧ pre rows N ∧ (N = rows.length ∨ okR rows N = false)
theorem acc_unique {rows : List (List Int)} {N M : Nat} (h : IsAcc rows N) (g : IsAcc rows M) : N = M := by
  obtain ⟨a, b, c⟩ := h
  obtain ⟨a', b', c'⟩ := g
  rcases Nat.lt_trichotomy N M with hl | hl | hl
  · have := b' N hl
    rcases c with c | c
    · omega
    · rw [this] at c; cases c
  · exact hl
  · have := b M hl
    rcases c' with c | c
    · omega
    · rw [this] at c; cases c
theorem accept_loop (rows : List (List Int)) (hr : rows.length ≤ 1000) (hs : ∀ x ∈ rows, x.length ≤ 70) (m : Nat) : ∀ (i k : Nat), rows.length - i = m → i ≤ rows.length → pre rows i → 2 * m + 2010 ≤ k →
    ∃ N : Nat, IsAcc rows N ∧ phase_Accept.l0 k rows i rows rows.length i = some (N : Int) := by
  have hsm : ∀ i, (rows.getD i []).length ≤ 70 := by
    intro i
    rw [List.getD_eq_getElem?_getD]
    by_cases h : i < rows.length
    · rw [List.getElem?_eq_getElem h]; exact hs _ (List.getElem_mem h)
    · rw [List.getElem?_eq_none (by omega)]; simp
  induction m with
  | zero =>
    intro i k hm hi hp hk
    obtain ⟨k, rfl⟩ : ∃ n, k = n + 1 := ⟨k - 1, by omega⟩
    refine ⟨i, ⟨hi, hp, Or.inl (by omega)⟩, ?_⟩
    simp only [phase_Accept.l0]
    rw [if_neg (by omega)]
  | succ m ih =>
    intro i k hm hi hp hk
    obtain ⟨k, rfl⟩ : ∃ n, k = n + 2 := ⟨k - 2, by omega⟩
    have er : ∀ j : Nat, rd_L1 rows (j : Int) = rows.getD j [] := fun j => by unfold rd_L1; rw [Int.toNat_natCast]
    have ei : wrap64 ((i : Int) + 1) = ((i + 1 : Nat) : Int) := by rw [wrap_in (by omega) (by omega)]; omega
    have next : okR rows i = true → ∃ N : Nat, IsAcc rows N ∧ phase_Accept.l0 k rows ((i + 1 : Nat) : Int) rows rows.length ((i + 1 : Nat) : Int) = some (N : Int) := fun h =>
      ih (i + 1) k (by omega) (by omega) (fun j hj => by
        by_cases e : j = i
        · rw [e]; exact h
        · exact hp j (by omega)) (by omega)
    have stop : okR rows i = false → IsAcc rows i := fun h => ⟨hi, hp, Or.inr h⟩
    simp only [phase_Accept.l0]
    rw [if_pos (by omega), if_pos (by omega), if_pos (by omega), er]
    by_cases hz : i = 0
    · subst hz
      rw [if_pos (show ((0 : Nat) : Int) = 0 from rfl), phase_Fits.f, if_pos (by have := hsm 0; omega)]
      simp only [Option.bind_some, phase_Accept.j1]
      have ho : okR rows 0 = fitsB (rows.getD 0 []) := by unfold okR; rw [if_pos rfl]
      cases hf : fitsB (rows.getD 0 [])
      · exact ⟨0, stop (by rw [ho, hf]), by simp⟩
      · simp only [Bool.not_true, Bool.false_eq_true, if_false]
        rw [if_neg (by simp), ei]
        exact next (by rw [ho, hf])
    · rw [if_neg (by omega)]
      have em : wrap64 ((i : Int) - 1) = ((i - 1 : Nat) : Int) := by rw [wrap_in (by omega) (by omega)]; omega
      have ho : okR rows i = followsB (rows.getD (i - 1) []) (rows.getD i []) := by unfold okR; rw [if_neg hz]
      simp only [phase_Accept.j1, Bool.false_eq_true, if_false]
      rw [if_pos (by omega), em, if_pos (by omega), if_pos (by omega), er, follows_eq _ _ (by have := hsm (i - 1); omega) (by have := hsm i; omega) _ (by omega)]
      simp only [Option.bind_some]
      by_cases hf : followsB (rows.getD (i - 1) []) (rows.getD i []) = true
      · rw [if_pos hf, ei]
        exact next (by rw [ho, hf])
      · rw [if_neg hf]
        exact ⟨i, stop (by rw [ho]; simpa using hf), rfl⟩
theorem accept_eq (rows : List (List Int)) (hr : rows.length ≤ 1000) (hs : ∀ x ∈ rows, x.length ≤ 70) (N : Nat) (hN : IsAcc rows N) (k : Nat) (hk : 5000 ≤ k) : phase_Accept.f k rows = some (N : Int) := by
  obtain ⟨M, hM, e⟩ := accept_loop rows hr hs rows.length 0 k (by omega) (by omega) (fun j hj => by omega) (by omega)
  rw [acc_unique hN hM]
  exact e
end Go.Proofs.YtpnofbiflaahhaaDoor.Pure
