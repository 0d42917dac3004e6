/- Plain facts on rates: what is drawn, given back, and the peaks. -/
import Derived.Test.YtomaojmccchibaaRatesM1
import Derived.Test.YtomaojmccchibaaXx2
import Derived.Test.YtomaojmccchibaaXx3
import Derived.OpenShut
namespace Go.Proofs.Ytomaojmccchibaa.X
open Go.RowKit Go.Proofs.YtomaojmccchibaaW.PrintWords

theorem wrap_in {x : Int} (h0 : -9223372036854775808 ≤ x) (h1 : x ≤ 9223372036854775807) : wrap64 x = x := by unfold wrap64; omega
/-- Rates that may be. -/
def Ok (r : S36) : Prop := (0 ≤ r.f0 ∧ r.f0 ≤ 1000) ∧ (0 ≤ r.f1 ∧ r.f1 ≤ 1000) ∧ (0 ≤ r.f2 ∧ r.f2 ≤ 1000) ∧ (0 ≤ r.f4 ∧ r.f4 ≤ 1000) ∧ (0 ≤ r.f3 ∧ r.f3 ≤ 100) ∧ (0 ≤ r.f5 ∧ r.f5 ≤ 64)
instance (r : S36) : Decidable (Ok r) := by unfold Ok; infer_instance
theorem check_f (r : S36) : rates_Check.f r.f0 r.f1 r.f2 r.f3 r.f4 r.f5 = some (decide (Ok r)) := by
  have hin : ∀ x m, rates_in.f x m = some (decide (0 ≤ x ∧ x ≤ m)) := by
    intro x m
    unfold rates_in.f
    by_cases h : x ≥ 0
    · rw [if_pos h]; congr 1; by_cases h2 : x ≤ m <;> simp [h2] <;> omega
    · rw [if_neg h]; congr 1; symm; simp; omega
  unfold rates_Check.f Ok
  simp only [hin, Option.bind_some]
  by_cases h0 : 0 ≤ r.f0 ∧ r.f0 ≤ 1000
  · by_cases h1 : 0 ≤ r.f1 ∧ r.f1 ≤ 1000
    · by_cases h2 : 0 ≤ r.f2 ∧ r.f2 ≤ 1000
      · by_cases h4 : 0 ≤ r.f4 ∧ r.f4 ≤ 1000
        · by_cases h3 : 0 ≤ r.f3 ∧ r.f3 ≤ 100
          · by_cases h5 : 0 ≤ r.f5 ∧ r.f5 ≤ 64 <;> simp [h0, h1, h2, h3, h4, h5]
          · simp [h0, h1, h2, h3, h4]
        · simp [h0, h1, h2, h4]
      · simp [h0, h1, h2]
    · simp [h0, h1]
  · simp [h0]
def cl (load : Int) : Int := mn (mx load 0) 64
theorem cl_bd (load : Int) : 0 ≤ cl load ∧ cl load ≤ 64 := by
  unfold cl mn mx
  repeat' split
  all_goals omega
theorem cl_cl (load : Int) : cl (cl load) = cl load := by
  have h := cl_bd load
  generalize cl load = c at h
  unfold cl mn mx
  repeat' split
  all_goals omega
theorem cl_in {x : Int} (h0 : 0 ≤ x) (h1 : x ≤ 64) : cl x = x := by
  unfold cl mn mx
  repeat' split
  all_goals omega
/-- How heavy a load is, on a way. -/
def hv (r : S36) (load dir : Int) : Int := if dir > 0 then cl load - r.f5 else if dir < 0 then r.f5 - cl load else 0
theorem hv_bd {r : S36} (h : Ok r) (load dir : Int) : -64 ≤ hv r load dir ∧ hv r load dir ≤ 64 := by
  have := cl_bd load
  have := h.2.2.2.2.2
  unfold hv
  repeat' split
  all_goals omega
theorem heavy_f {r : S36} (h : Ok r) (load dir : Int) : rates_Rates_heavy.f r.f0 r.f1 r.f2 r.f3 r.f4 r.f5 load dir = some (hv r load dir) := by
  have h1 := cl_bd load
  have h2 := h.2.2.2.2.2
  unfold cl at h1
  unfold rates_Rates_heavy.f hv cl
  generalize mn (mx load 0) 64 = c at h1
  rw [wrap_in (x := c - r.f5) (by omega) (by omega), wrap_in (x := r.f5 - c) (by omega) (by omega)]
  split
  · rfl
  · split <;> rfl
theorem mx_bd (x : Int) : 0 ≤ mx x 0 ∧ (x ≤ 64 → mx x 0 ≤ 64) := by
  unfold mx; split <;> exact ⟨by omega, fun _ => by omega⟩
theorem pull_bd {r : S36} (h : Ok r) {x : Int} (hx : x ≤ 64) : 0 ≤ r.f3 * mx x 0 ∧ r.f3 * mx x 0 ≤ 6400 := by
  have h1 := mx_bd x
  have h3 := h.2.2.2.2.1
  refine ⟨Int.mul_nonneg h3.1 h1.1, ?_⟩
  have : r.f3 * mx x 0 ≤ 100 * 64 := Int.mul_le_mul h3.2 (h1.2 hx) h1.1 (by omega)
  omega
/-- What is drawn. -/
def dv (r : S36) (what load dir : Int) : Int :=
  if what = 4 then r.f4 else if dir = 0 then 0 else if what ≤ 0 then 0 else if what > 4 then 0 else
    if what = 1 then r.f0 + r.f1 + r.f3 * mx (hv r load dir) 0 + r.f2 else r.f0 + r.f1 + r.f3 * mx (hv r load dir) 0
theorem draw_f {r : S36} (h : Ok r) (what load dir : Int) (k : Nat) (hk : 0 < k) : rates_Draw.f k r.f0 r.f1 r.f2 r.f3 r.f4 r.f5 what load dir = some (dv r what load dir) := by
  obtain ⟨k, rfl⟩ : ∃ m, k = m + 1 := ⟨k - 1, by omega⟩
  have hp := pull_bd h (hv_bd h load dir).2
  obtain ⟨a0, a1, a2, a4, a3, a5⟩ := h
  unfold rates_Draw.f dv
  rw [heavy_f ⟨a0, a1, a2, a4, a3, a5⟩]
  simp only [Option.bind_some, rates_Draw.j0]
  generalize r.f3 * mx (hv r load dir) 0 = q at hp
  rw [wrap_in (x := q) (by omega) (by omega), wrap_in (x := r.f0 + r.f1) (by omega) (by omega), wrap_in (x := r.f0 + r.f1 + q) (by omega) (by omega), wrap_in (x := r.f0 + r.f1 + q + r.f2) (by omega) (by omega)]
  by_cases c1 : what = 4
  · rw [if_pos c1, if_pos c1]
  · rw [if_neg c1, if_neg c1]
    by_cases c2 : dir = 0
    · rw [if_pos c2, if_pos c2]; rfl
    · rw [if_neg c2, if_neg c2]
      by_cases c3 : what ≤ 0
      · rw [if_pos c3, if_pos c3]; rfl
      · rw [if_neg c3, if_neg c3]
        by_cases c4 : what > 4
        · rw [if_pos c4, if_pos (by simpa using c4)]
        · rw [if_neg c4, if_neg (by simpa using c4)]
          split <;> rfl
theorem dv_bd {r : S36} (h : Ok r) (what load dir : Int) : 0 ≤ dv r what load dir ∧ dv r what load dir ≤ 9400 := by
  have hp := pull_bd h (hv_bd h load dir).2
  obtain ⟨a0, a1, a2, a4, a3, a5⟩ := h
  unfold dv
  generalize r.f3 * mx (hv r load dir) 0 = q at hp
  repeat' split
  all_goals omega
/-- What is given back. -/
def gv (r : S36) (what load dir : Int) : Int := if what = 2 then r.f3 * mx (-hv r load dir) 0 else if what = 3 then r.f3 * mx (-hv r load dir) 0 else 0
theorem gives_f {r : S36} (h : Ok r) (what load dir : Int) : rates_Gives.f r.f0 r.f1 r.f2 r.f3 r.f4 r.f5 what load dir = some (gv r what load dir) := by
  have hb := hv_bd h load dir
  have hp := pull_bd h (x := -hv r load dir) (by omega)
  unfold rates_Gives.f gv
  rw [heavy_f h]
  simp only [Option.bind_some]
  rw [wrap_in (x := -hv r load dir) (by omega) (by omega)]
  generalize r.f3 * mx (-hv r load dir) 0 = q at hp
  rw [wrap_in (x := q) (by omega) (by omega)]
  split
  · rfl
  · split <;> rfl
theorem gv_bd {r : S36} (h : Ok r) (what load dir : Int) : 0 ≤ gv r what load dir ∧ gv r what load dir ≤ 6400 := by
  have hb := hv_bd h load dir
  have hp := pull_bd h (x := -hv r load dir) (by omega)
  unfold gv
  generalize r.f3 * mx (-hv r load dir) 0 = q at hp
  repeat' split
  all_goals omega
/-- The most that is drawn on a way. -/
def pk (r : S36) (load dir : Int) : Int := mx (mx (mx (mx 0 (dv r 1 load dir)) (dv r 2 load dir)) (dv r 3 load dir)) (dv r 4 load dir)
theorem peak_f {r : S36} (h : Ok r) (load dir : Int) (k : Nat) (hk : 6 < k) : rates_Rates_peak.f k r.f0 r.f1 r.f2 r.f3 r.f4 r.f5 load dir = some (pk r load dir) := by
  obtain ⟨k, rfl⟩ : ∃ m, k = m + 1 + 1 + 1 + 1 + 1 + 1 := ⟨k - 6, by omega⟩
  unfold rates_Rates_peak.f pk
  have e1 : wrap64 (0 + 1) = 1 := wrap_in (by omega) (by omega)
  have e2 : wrap64 (1 + 1) = 2 := wrap_in (by omega) (by omega)
  have e3 : wrap64 (2 + 1) = 3 := wrap_in (by omega) (by omega)
  have e4 : wrap64 (3 + 1) = 4 := wrap_in (by omega) (by omega)
  have d0 : rd [1, 2, 3, 4] 0 = 1 := rfl
  have d1 : rd [1, 2, 3, 4] 1 = 2 := rfl
  have d2 : rd [1, 2, 3, 4] 2 = 3 := rfl
  have d3 : rd [1, 2, 3, 4] 3 = 4 := rfl
  simp only [rates_Rates_peak.l0, Option.bind_some, List.length_cons, List.length_nil]
  simp (config := { decide := true }) only [d0, d1, d2, d3, e1, e2, e3, e4, if_true, draw_f h _ _ _ _ (Nat.succ_pos _), Option.bind_some, if_false]
theorem pk_bd {r : S36} (h : Ok r) (load dir : Int) : 0 ≤ pk r load dir ∧ pk r load dir ≤ 9400 := by
  have b1 := dv_bd h 1 load dir
  have b2 := dv_bd h 2 load dir
  have b3 := dv_bd h 3 load dir
  have b4 := dv_bd h 4 load dir
  unfold pk mx
  repeat' split
  all_goals omega
def pV (r : S36) (i : Nat) : Int := pk r (i : Int) 1
def qV (r : S36) (i : Nat) : Int := pk r (i : Int) (-1)
theorem peaks_of {r : S36} (h : Ok r) : PeaksOf r (pV r) (qV r) := fun i _ => ⟨peak_f h _ _ 20 (by omega), peak_f h _ _ 20 (by omega)⟩
/-- What hangs on a load and a way hangs on what they count as. -/
theorem clampN_cl (load : Int) : ((clampN load : Nat) : Int) = cl load := by
  have := cl_bd load
  unfold clampN
  show ((cl load).toNat : Int) = cl load
  omega
theorem hv_of {r : S36} {l l' d d' : Int} (hl : cl l = cl l') (hd : (d > 0 ↔ d' > 0) ∧ (d < 0 ↔ d' < 0)) : hv r l d = hv r l' d' := by
  unfold hv
  rw [hl]
  by_cases h1 : d > 0
  · rw [if_pos h1, if_pos (hd.1.1 h1)]
  · rw [if_neg h1, if_neg (fun h => h1 (hd.1.2 h))]
    by_cases h2 : d < 0
    · rw [if_pos h2, if_pos (hd.2.1 h2)]
    · rw [if_neg h2, if_neg (fun h => h2 (hd.2.2 h))]
theorem dv_of {r : S36} {l l' d d' : Int} (what : Int) (hl : cl l = cl l') (hd : (d > 0 ↔ d' > 0) ∧ (d < 0 ↔ d' < 0)) : dv r what l d = dv r what l' d' := by
  have hz : d = 0 ↔ d' = 0 := ⟨fun h => by have := hd.1; have := hd.2; omega, fun h => by have := hd.1; have := hd.2; omega⟩
  unfold dv
  rw [hv_of hl hd]
  by_cases h1 : what = 4
  · rw [if_pos h1, if_pos h1]
  · rw [if_neg h1, if_neg h1]
    by_cases h2 : d = 0
    · rw [if_pos h2, if_pos (hz.1 h2)]
    · rw [if_neg h2, if_neg (fun h => h2 (hz.2 h))]
theorem gv_of {r : S36} {l l' d d' : Int} (what : Int) (hl : cl l = cl l') (hd : (d > 0 ↔ d' > 0) ∧ (d < 0 ↔ d' < 0)) : gv r what l d = gv r what l' d' := by
  unfold gv; rw [hv_of hl hd]
theorem pk_of {r : S36} {l l' d d' : Int} (hl : cl l = cl l') (hd : (d > 0 ↔ d' > 0) ∧ (d < 0 ↔ d' < 0)) : pk r l d = pk r l' d' := by
  unfold pk; rw [dv_of 1 hl hd, dv_of 2 hl hd, dv_of 3 hl hd, dv_of 4 hl hd]
theorem peakV_pk {r : S36} (h : Ok r) (load dir : Int) : peakV r (pV r) (qV r) load dir = pk r load dir := by
  unfold peakV pV qV
  have hc : cl ((clampN load : Nat) : Int) = cl load := by rw [clampN_cl, cl_cl]
  by_cases h1 : dir > 0
  · rw [if_pos h1]; exact pk_of hc ⟨by omega, by omega⟩
  · rw [if_neg h1]
    by_cases h2 : dir < 0
    · rw [if_pos h2]; exact pk_of hc ⟨by omega, by omega⟩
    · rw [if_neg h2]
      obtain rfl : dir = 0 := by omega
      have := h.2.2.2.1
      simp [pk, dv, mx]; omega
end Go.Proofs.Ytomaojmccchibaa.X
