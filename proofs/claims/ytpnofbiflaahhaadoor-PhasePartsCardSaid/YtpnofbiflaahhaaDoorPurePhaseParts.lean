/- PhaseParts: some of cars that may be so at one time may be so, in whatever order. -/
import Derived.Test.YtpnofbiflaahhaaDoorPsPhaseParts
import Derived.Test.YtpnofbiflaahhaaDoorPhaseFitsEq
namespace Go.Proofs.YtpnofbiflaahhaaDoor.Pure
open Go.RowKit Go.Proofs.YtpnofbiflaahhaaDoor.X Go.Proofs.YtpnofbiflaahhaaDoorW.PrintWords Go.Proofs.YtpnofbiflaahhaaDoorW.PrintLast

def IsPart (l x : List Int) : Prop := ∀ s : Int, 0 ≤ s → s < (x.length : Int) → rd x s = rd l ((l.length : Int) - 1 - 2 * s) ∧ 0 ≤ (l.length : Int) - 1 - 2 * s
theorem part_fits {l x : List Int} (h : IsPart l x) (hf : fitsB l = true) : fitsB x = true := by
  rw [fits_iff] at hf ⊢
  intro i h0 h1
  obtain ⟨e, e0⟩ := h i h0 h1
  obtain ⟨g1, g2⟩ := hf _ e0 (by omega)
  refine ⟨by rw [e]; exact g1, fun j j0 j1 => ?_⟩
  obtain ⟨e', e0'⟩ := h j j0 j1
  have := g2 _ e0' (by omega)
  unfold pairOk at this ⊢
  rw [e, e']
  have hd : decide (i = j) = decide ((l.length : Int) - 1 - 2 * i = (l.length : Int) - 1 - 2 * j) := by
    rw [decide_eq_decide]; omega
  rw [hd]
  exact this
theorem part_follows {l m x y : List Int} (hx : IsPart l x) (hy : IsPart m y) (hxy : x.length = y.length) (hf : followsB l m = true) : followsB x y = true := by
  unfold followsB at hf ⊢
  simp only [Bool.and_eq_true, decide_eq_true_eq] at hf ⊢
  obtain ⟨h1, h2, h3, h4⟩ := hf
  refine ⟨hxy, part_fits hx h2, part_fits hy h3, fun j j0 j1 => ?_⟩
  obtain ⟨e, e0⟩ := hx j j0 j1
  obtain ⟨e', e0'⟩ := hy j j0 (by omega)
  rw [e, e', ← h1]
  exact h4 _ e0 (by omega)
theorem part_snoc {l x : List Int} (t : Nat) (ht : x.length = t) (h : IsPart l x) (v : Int) (hv : v = rd l ((l.length : Int) - 1 - 2 * t)) (h0 : 0 ≤ (l.length : Int) - 1 - 2 * t) : IsPart l (x ++ [v]) := by
  intro s s0 s1
  simp only [List.length_append, List.length_cons, List.length_nil] at s1
  by_cases hs : s < (x.length : Int)
  · have e : rd (x ++ [v]) s = rd x s := by
      unfold rd
      rw [List.getD_eq_getElem?_getD, List.getD_eq_getElem?_getD, List.getElem?_append_left (by omega)]
    rw [e]; exact h s s0 hs
  · have hst : s = (t : Int) := by omega
    subst hst
    have e : rd (x ++ [v]) (t : Int) = v := by
      unfold rd
      rw [List.getD_eq_getElem?_getD, Int.toNat_natCast, List.getElem?_append_right (by omega)]
      simp [ht]
    rw [e]; exact ⟨hv, h0⟩
theorem parts_loop (l m : List Int) (hl : l.length ≤ 60) (hm : m.length = l.length) (q : Nat) : ∀ (t k : Nat) (x y : List Int), l.length - t = q → x.length = t → y.length = t → t ≤ l.length → IsPart l x → IsPart m y → q + 3000 ≤ k →
    paternosterlaw21_PhaseParts.l0 k l m x y (2 * (t : Int)) = some true := by
  have fin : ∀ (k : Nat) (x y : List Int), x.length = y.length → x.length ≤ 60 → IsPart l x → IsPart m y → 2900 ≤ k →
      ((phase_Fits.f l).bind fun t216 => (if t216 = true then ((phase_Fits.f x).bind fun t217 => (paternosterlaw21_PhaseParts.j2 k l m x y (!t217))) else (paternosterlaw21_PhaseParts.j2 k l m x y false))) = some true := by
    intro k x y hxy hx px py hk
    obtain ⟨k, rfl⟩ : ∃ n, k = n + 1 := ⟨k - 1, by omega⟩
    have hj : paternosterlaw21_PhaseParts.j2 (k + 1) l m x y false = some true := by
      simp only [paternosterlaw21_PhaseParts.j2, Bool.false_eq_true, if_false]
      rw [follows_eq l m (by omega) (by omega) k (by omega), follows_eq x y (by omega) (by omega) k (by omega)]
      simp only [Option.bind_some]
      by_cases hf : followsB l m = true
      · rw [if_pos hf, part_follows px py hxy hf]
      · rw [if_neg hf]
    rw [phase_Fits.f, if_pos (by omega), phase_Fits.f, if_pos (by omega)]
    simp only [Option.bind_some]
    cases hf : fitsB l
    · simpa using hj
    · rw [part_fits px hf]
      simpa using hj
  induction q with
  | zero =>
    intro t k x y hq hx hy ht px py hk
    obtain ⟨k, rfl⟩ : ∃ n, k = n + 1 := ⟨k - 1, by omega⟩
    simp only [paternosterlaw21_PhaseParts.l0]
    rw [if_neg (by omega)]
    exact fin k x y (by omega) (by omega) px py (by omega)
  | succ q ih =>
    intro t k x y hq hx hy ht px py hk
    obtain ⟨k, rfl⟩ : ∃ n, k = n + 1 := ⟨k - 1, by omega⟩
    simp only [paternosterlaw21_PhaseParts.l0]
    by_cases hc : 2 * (t : Int) < (l.length : Int)
    · have e1 : wrap64 (wrap64 ((l.length : Int) - 1) - 2 * (t : Int)) = (l.length : Int) - 1 - 2 * t := by
        rw [wrap_in (x := (l.length : Int) - 1) (by omega) (by omega), wrap_in (by omega) (by omega)]
      have e2 : wrap64 (2 * (t : Int) + 2) = 2 * ((t + 1 : Nat) : Int) := by
        rw [wrap_in (by omega) (by omega)]; omega
      rw [if_pos hc, e1, e2, if_pos (by omega), if_pos (by omega), if_pos (by omega), if_pos (by omega), if_pos (by omega)]
      exact ih (t + 1) k _ _ (by omega) (by simp [hx]) (by simp [hy]) (by omega) (part_snoc t hx px _ rfl (by omega)) (part_snoc t hy py _ (by rw [hm]) (by omega)) (by omega)
    · rw [if_neg hc]
      exact fin k x y (by omega) (by omega) px py (by omega)
theorem PhaseParts : paternosterlaw21_PhaseParts.PureS := by
  intro l m _ _
  refine ⟨40 + 30000, ?_⟩
  unfold paternosterlaw21_PhaseParts.f
  rw [awake1]
  simp only [Option.bind_some, if_true]
  by_cases h1 : (l.length : Int) > 60
  · rw [if_pos h1]; rfl
  · rw [if_neg h1]
    by_cases h2 : (m.length : Int) = (l.length : Int)
    · rw [show ((m.length : Int) != (l.length : Int)) = false by rw [h2]; simp]
      rw [show (40 + 30000 : Nat) = 30039 + 1 from rfl]
      simp only [paternosterlaw21_PhaseParts.j0, Bool.false_eq_true, if_false]
      exact parts_loop l m (by omega) (by omega) l.length 0 30039 [] [] (by omega) rfl rfl (by omega) (fun s s0 s1 => by simp at s1; omega) (fun s s0 s1 => by simp at s1; omega) (by omega)
    · rw [show ((m.length : Int) != (l.length : Int)) = true by simpa using h2]; rfl
end Go.Proofs.YtpnofbiflaahhaaDoor.Pure
