/- PhaseSame: cars that may be so at one time may stay so; any of them may be out next, alone. -/
import Derived.Test.YtpnofbiflaahhaaDoorPsPhaseSame
import Derived.Test.YtpnofbiflaahhaaDoorPhaseAcc
namespace Go.Proofs.YtpnofbiflaahhaaDoor.Pure
open Go.RowKit Go.Proofs.YtpnofbiflaahhaaDoor.X Go.Proofs.YtpnofbiflaahhaaDoorW.PrintWords Go.Proofs.YtpnofbiflaahhaaDoorW.PrintLast

theorem may_self {q : Int} (h : isP q) : mayB q q = true := by
  have h0 : q = 0 ∨ q = 1 ∨ q = 2 ∨ q = 3 ∨ q = 4 ∨ q = 5 := by unfold isP at h; omega
  rcases h0 with rfl | rfl | rfl | rfl | rfl | rfl <;> rfl
theorem may_out {q : Int} (h : isP q) : mayB q 5 = true := by
  have h0 : q = 0 ∨ q = 1 ∨ q = 2 ∨ q = 3 ∨ q = 4 ∨ q = 5 := by unfold isP at h; omega
  rcases h0 with rfl | rfl | rfl | rfl | rfl | rfl <;> rfl
theorem follows_self (l : List Int) : followsB l l = fitsB l := by
  unfold followsB
  cases hf : fitsB l
  · simp
  · have h := (fits_iff l).1 hf
    have ha : allMay l l 0 := fun j j0 j1 => may_self (h j j0 j1).1
    simp [ha]
theorem rd_set (l : List Int) (c : Nat) (_ : c < l.length) (v j : Int) (h0 : 0 ≤ j) (h1 : j < (l.length : Int)) : rd (l.set c v) j = if j = (c : Int) then v else rd l j := by
  obtain ⟨n, rfl⟩ : ∃ n : Nat, j = n := ⟨j.toNat, by omega⟩
  rw [rd_nat l n (by omega), rd_nat _ n (by simp; omega), List.getElem_set]
  by_cases e : c = n
  · rw [if_pos e, if_pos (by omega)]
  · rw [if_neg e, if_neg (by omega)]
theorem set_fits (l : List Int) (c : Nat) (hc : c < l.length) (hf : fitsB l = true) : fitsB (l.set c 5) = true := by
  rw [fits_iff] at hf ⊢
  intro i h0 h1
  rw [List.length_set] at h1
  obtain ⟨p, q⟩ := hf i h0 h1
  have ri := rd_set l c hc 5 i h0 h1
  refine ⟨?_, fun j j0 j1 => ?_⟩
  · rw [ri]
    by_cases e : i = (c : Int)
    · rw [if_pos e]; unfold isP; omega
    · rw [if_neg e]; exact p
  · rw [List.length_set] at j1
    have rj := rd_set l c hc 5 j j0 j1
    have := q j j0 j1
    unfold pairOk act at this ⊢
    rw [ri, rj]
    by_cases e : i = (c : Int)
    · rw [if_pos e]; simp
    · rw [if_neg e]
      by_cases e' : j = (c : Int)
      · rw [if_pos e']; simp
      · rw [if_neg e']; exact this
theorem set_follows (l : List Int) (c : Nat) (hc : c < l.length) (hf : fitsB l = true) : followsB l (l.set c 5) = true := by
  unfold followsB
  have h := (fits_iff l).1 hf
  have ha : allMay l (l.set c 5) 0 := fun j j0 j1 => by
    rw [rd_set l c hc 5 j j0 j1]
    by_cases e : j = (c : Int)
    · rw [if_pos e]; exact may_out (h j j0 j1).1
    · rw [if_neg e]; exact may_self (h j j0 j1).1
  simp [hf, set_fits l c hc hf, ha]
theorem PhaseSame : paternosterlaw21_PhaseSame.PureS := by
  intro l a _ ha
  have ha : 0 ≤ a ∧ a ≤ 255 := by
    simp [Lit.wf, IntKind.min, IntKind.max, IntKind.signed, IntKind.bits] at ha
    omega
  refine ⟨40 + 30000, ?_⟩
  unfold paternosterlaw21_PhaseSame.f
  rw [awake1]
  simp only [Option.bind_some, if_true]
  by_cases h1 : (l.length : Int) > 60
  · rw [if_pos h1]; rfl
  · rw [if_neg h1]
    by_cases h2 : (l.length : Int) = 0
    · rw [show ((l.length : Int) == 0) = true by rw [h2]; rfl]; rfl
    · rw [show ((l.length : Int) == 0) = false from beq_eq_false_iff_ne.2 h2]
      rw [show (40 + 30000 : Nat) = 30039 + 1 from rfl]
      have e0 := Int.emod_nonneg a h2
      have e1 := Int.emod_lt_of_pos a (show (0 : Int) < (l.length : Int) by omega)
      obtain ⟨c, hc⟩ : ∃ c : Nat, a % (l.length : Int) = c := ⟨(a % (l.length : Int)).toNat, by omega⟩
      have et : Int.tmod (wrap64 a) (l.length : Int) = (c : Int) := by rw [wrap_in (x := a) (by omega) (by omega), Int.tmod_eq_emod_of_nonneg ha.1, hc]
      have hcl : c < l.length := by omega
      simp only [paternosterlaw21_PhaseSame.j0, Bool.false_eq_true, if_false]
      rw [phase_Fits.f, if_pos (by omega), follows_eq l l (by omega) (by omega) _ (by omega), follows_self, et]
      simp only [Option.bind_some, bne_self_eq_false, Bool.false_eq_true, if_false, List.nil_append, Int.toNat_natCast]
      rw [if_pos (by simp <;> omega), if_neg h2, if_pos (by omega), if_pos (by omega)]
      cases hf : fitsB l
      · rfl
      · have e5 : phase_Fits.f (l.set c 5) = some true := by unfold phase_Fits.f; rw [if_pos (by simp <;> omega), set_fits l c hcl hf]
        rw [e5, follows_eq l _ (by omega) (by simp <;> omega) _ (by omega), set_follows l c hcl hf]
        simp only [Option.bind_some, if_true]
        have hA : IsAcc [l, l, l.set c 5] 3 := by
          refine ⟨Nat.le_refl 3, fun i hi => ?_, Or.inl rfl⟩
          match i, hi with
          | 0, _ => unfold okR; rw [if_pos rfl]; exact hf
          | 1, _ => unfold okR; rw [if_neg (by omega)]; show followsB l l = true; rw [follows_self]; exact hf
          | 2, _ => unfold okR; rw [if_neg (by omega)]; exact set_follows l c hcl hf
        rw [accept_eq [l, l, l.set c 5] (by simp) (by
          intro x hx
          simp only [List.mem_cons, List.not_mem_nil, or_false] at hx
          rcases hx with rfl | rfl | rfl
          · omega
          · omega
          · simp <;> omega) 3 hA _ (by omega)]
        rfl
end Go.Proofs.YtpnofbiflaahhaaDoor.Pure
