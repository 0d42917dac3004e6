/- SatSums: the sum of any numbers, and whether a bound was met, are the document's. No condition. -/
import Derived.Test.YtnhiokgkhbiflaaXx11
import Derived.Test.YtnhiokgkhbiflaaSatPlain2
namespace Go.Proofs.Ytnhiokgkhbiflaa.Pure
open Go.RowKit Go.Proofs.Ytnhiokgkhbiflaa.X Go.Proofs.YtnhiokgkhbiflaaW.PrintWords Go.Proofs.YtnhiokgkhbiflaaW.PrintLast

theorem sums_loop (l : List Int) (hl : l.length ≤ 200) (d : Nat) : ∀ (k : Nat) (x : Int) (m : Bool) (i : Int), 0 ≤ i → (l.length : Int) - i = d → d + 201 < k →
    (l.drop i.toNat).foldl stp (x, m) = l.foldl stp (0, false) → paternosterlaw03_SatSums.l0 k l x m i = some true := by
  induction d with
  | zero =>
    intro k x m i h0 hd hk he
    obtain ⟨k, rfl⟩ : ∃ m, k = m + 1 := ⟨k - 1, by omega⟩
    rw [List.drop_eq_nil_of_le (by omega)] at he
    simp only [paternosterlaw03_SatSums.l0]; rw [if_neg (by omega), sum_eq l (by omega) k (by omega), ← he]; simp
  | succ d ih =>
    intro k x m i h0 hd hk he
    obtain ⟨k, rfl⟩ : ∃ m, k = m + 1 := ⟨k - 1, by omega⟩
    have hlt : i.toNat < l.length := by omega
    have e : l.drop i.toNat = rd l i :: l.drop (i + 1).toNat := by
      rw [List.drop_eq_getElem_cons hlt, show (i + 1).toNat = i.toNat + 1 by omega]
      congr 1
      unfold rd; rw [List.getD_eq_getElem?_getD, List.getElem?_eq_getElem hlt]; rfl
    rw [e, List.foldl_cons] at he
    simp only [paternosterlaw03_SatSums.l0]
    rw [if_pos (by omega), if_pos h0, wrap_in (x := i + 1) (by omega) (by omega), radd_eq]
    simp only [Option.bind_some]
    cases m
    · rw [if_neg (by simp), ih k _ _ _ (by omega) (by omega) (by omega) (by simpa [stp] using he)]
    · rw [if_pos rfl, ih k _ _ _ (by omega) (by omega) (by omega) (by simpa [stp] using he)]
theorem SatSums : paternosterlaw03_SatSums.Pure := by
  intro l _ _ _
  refine ⟨500, ?_⟩
  unfold paternosterlaw03_SatSums.f
  rw [awake3 _ (by omega)]
  simp only [Option.bind_some, if_true]
  by_cases h : (l.length : Int) > 200
  · rw [if_pos h]
  · rw [if_neg h]
    exact sums_loop l (by omega) l.length 500 0 false 0 (by omega) (by omega) (by omega) (by simp)
end Go.Proofs.Ytnhiokgkhbiflaa.Pure
