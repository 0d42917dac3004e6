/- CellRuns: whatever is spent and filled, a battery stays within its bounds, and has what it had, and was filled, less what was spent. No condition. -/
import Derived.Test.YtnhiokgkhbiflaaXx4
import Derived.Test.YtnhiokgkhbiflaaSatPlain
namespace Go.Proofs.Ytnhiokgkhbiflaa.Pure
open Go.RowKit Go.Proofs.Ytnhiokgkhbiflaa.X Go.Proofs.YtnhiokgkhbiflaaW.PrintWords Go.Proofs.YtnhiokgkhbiflaaW.PrintLast

theorem rd_mem {l : List Int} {i : Int} (h0 : 0 ≤ i) (h1 : i < l.length) : rd l i ∈ l := by
  unfold rd
  rw [List.getD_eq_getElem?_getD, List.getElem?_eq_getElem (show i.toNat < l.length by omega)]
  exact List.getElem_mem _

theorem runs_loop (f : Int) (l : List Int) (hf : 0 ≤ f ∧ f ≤ 65535) (hl : l.length ≤ 300) (hx : ∀ x ∈ l, -32768 ≤ x ∧ x ≤ 32767) (d : Nat) : ∀ (k : Nat) (i h : Int), 0 ≤ i → (l.length : Int) - i = d → 2 * d < k → 0 ≤ h → h ≤ f →
    paternosterlaw09_CellRuns.l0 k f l i h f = some true := by
  induction d with
  | zero =>
    intro k i h h0 hd hk _ _
    obtain ⟨k, rfl⟩ : ∃ m, k = m + 1 := ⟨k - 1, by omega⟩
    simp only [paternosterlaw09_CellRuns.l0]; rw [if_neg (by omega)]
  | succ d ih =>
    intro k i h h0 hd hk g0 g1
    obtain ⟨k, rfl⟩ : ∃ m, k = m + 1 := ⟨k - 1, by omega⟩
    obtain ⟨k', rfl⟩ : ∃ m, k = m + 1 := ⟨k - 1, by omega⟩
    have hlt : i < (l.length : Int) := by omega
    have hb := hx _ (rd_mem h0 hlt)
    have e0 : wrap64 f = f := wrap_in (by omega) (by omega)
    have e1 : wrap64 (i + 1) = i + 1 := wrap_in (by omega) (by omega)
    have step : ∀ h' k, 2 * d < k → 0 ≤ h' → h' ≤ f → paternosterlaw09_CellRuns.l0 k f l (i + 1) h' f = some true := fun h' k hk a b => ih k (i + 1) h' (by omega) (by omega) hk a b
    have ej : ∀ h', 0 ≤ h' → h' ≤ f → paternosterlaw09_CellRuns.j1 (k' + 1) f l i false h' f = some true := by
      intro h' a b
      simp only [paternosterlaw09_CellRuns.j1]
      rw [if_neg (by simp), if_neg (by omega), if_neg (by omega), if_pos e0.symm, e1]
      exact step h' k' (by omega) a b
    simp only [paternosterlaw09_CellRuns.l0]; rw [if_pos hlt, if_pos h0]
    generalize rd l i = n at hb ⊢
    rw [wrap_in (x := n) (by omega) (by omega)]
    by_cases hn : n < 0
    · rw [if_pos hn, wrap_in (x := -n) (by omega) (by omega), spend_eq g0 g1 (by omega)]
      simp only [Option.bind_some]
      by_cases hs : -n ≤ h
      · have em : mx (-n) 0 = -n := by unfold mx; split <;> omega
        rw [if_pos hs, em]
        simp only []
        rw [if_neg (by simp [hs]), if_pos trivial, wrap_in (by omega) (by omega), if_pos (by omega)]
        exact ej _ (by omega) (by omega)
      · rw [if_neg hs]
        simp only []
        rw [if_neg (by simp [hs]), if_neg (by simp)]
        simp only [beq_self_eq_true, Bool.not_true, Bool.or_self]
        exact ej _ g0 g1
    · have em : mx n 0 = n := by unfold mx; split <;> omega
      rw [if_neg hn, fillf_eq g0 g1 (by omega), em, wrap_in (x := h + n) (by omega) (by omega)]
      simp only [Option.bind_some]
      have hm : 0 ≤ mn (h + n) f ∧ mn (h + n) f ≤ f := by unfold mn; split <;> omega
      rw [if_pos trivial, if_neg (by omega), if_neg (by omega), if_pos e0.symm, e1]
      exact step _ (k' + 1) (by omega) hm.1 hm.2

theorem CellRuns : paternosterlaw09_CellRuns.Pure := by
  intro a0 l b0 hl0 hl1 hx
  have b0 := bounds_u16 b0
  refine ⟨602, ?_⟩
  unfold paternosterlaw09_CellRuns.f
  simp only [paternosterlaw09_awake.f, Option.bind_some, if_true]
  by_cases hl : (l.length : Int) > 300
  · rw [if_pos hl]
  · rw [if_neg hl, wrap_in (by omega) (by omega)]
    exact runs_loop a0 l (by omega) (by omega) (fun x h => bounds_i16 (hx x h)) l.length 602 0 0 (by omega) (by omega) (by omega) (by omega) (by omega)
end Go.Proofs.Ytnhiokgkhbiflaa.Pure
