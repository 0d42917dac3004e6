/- Rows of whole numbers that came in; a laid table's state. -/
import Derived.Test.YtomaojmccchibaaRatesReg
namespace Go.Proofs.Ytomaojmccchibaa.X
open Go.RowKit Go.Proofs.YtomaojmccchibaaW.PrintWords Go.Proofs.YtomaojmccchibaaW.PrintLast Go.Proofs.YtomaojmccchibaaW.PrintMore
set_option linter.unusedVariables false
set_option linter.unusedSimpArgs false

/-- What a row of whole numbers that is read is: empty, or cells of one block. -/
theorem ints_of {w : World} {A : Option Addr} {zs : List Int} (h : Kd.C (Kd.int .i64) w A zs.length zs) :
    zs = [] ∨ ∃ b off, A = some ⟨b, off, none⟩ ∧ b < w.heap.size ∧ ∀ j, j < zs.length → w.cell? ⟨b, off + j, none⟩ = some (.int .i64 (zs[j]?.getD 0)) := by
  by_cases hz : zs = []
  · exact .inl hz
  · have hl : 0 < zs.length := List.length_pos_iff.2 hz
    obtain ⟨ad, rfl, hc⟩ := h.2.2 hl
    have cell : ∀ j, j < zs.length → w.cell? (ad.add j) = some (.int .i64 (zs[j]?.getD 0)) := by
      intro j hj
      obtain ⟨c, hcl, hK, hcell⟩ := hc j _ (List.getElem?_eq_getElem hj)
      have hK : c = [Value.int .i64 zs[j]] := hK
      subst hK
      have := hcell 0 _ rfl
      simpa [Kd.int, Kd.scalar, List.getElem?_eq_getElem hj] using this
    have hs : ad.spot = none := by
      have h0 := cell 0 hl
      simp only [Addr.add, if_true] at h0
      unfold World.cell? at h0
      split at h0
      · cases hsp : ad.spot with
        | none => rfl
        | some x => rw [hsp] at h0; simp at h0
      · cases h0
    obtain ⟨b, off, sp⟩ := ad
    obtain rfl : sp = none := hs
    refine .inr ⟨b, off, rfl, World.block_lt_of_cell? w _ (cell 0 hl), fun j hj => ?_⟩
    have := cell j hj
    unfold Addr.add at this
    split at this
    · rename_i e; subst e; simpa using this
    · simpa using this

/-- The table is laid. -/
def RGD (w : World) (b g : Nat) (r : S36) (p q : Nat → Int) (W : World) : Prop := RG w b g r p q W ∧ Done g r p q W
section
variable {w W W' : World} {b g : Nat} {r : S36} {p q : Nat → Int}
theorem RGD.below (h : RGD w b g r p q W) (hb : Below W.heap.size W W') : RGD w b g r p q W' := ⟨h.1.below hb, TB.below h.2 hb⟩
theorem peak_RGD {load dir v : Int} (h : RG w b g r p q W) (HP : PeaksOf r p q) (hd : peakV r p q load dir = v) :
    Calls Try.prog 35 #[.pointer (some ⟨g, 0, none⟩), .int .i64 load, .int .i64 dir] W fun e W' => e = .returned (.int .i64 v) ∧ RGD w b g r p q W' := by
  subst hd
  exact (peak_any g r p q load dir W h.2.1 HP).mono fun e W' ⟨he, hD, hK⟩ => ⟨he, h.but hD hK, hD⟩
theorem most_RGD {v : Int} (h : RG w b g r p q W) (HP : PeaksOf r p q) (hd : mK p q 65 = v) :
    Calls Try.prog 36 #[.pointer (some ⟨g, 0, none⟩)] W fun e W' => e = .returned (.int .i64 v) ∧ RGD w b g r p q W' := by
  subst hd
  exact (most_any g r p q W h.2.1 HP).mono fun e W' ⟨he, hD, hK⟩ => ⟨he, h.but hD hK, hD⟩
theorem laid_RGD (h : RGD w b g r p q W) :
    Calls Try.prog 37 #[.pointer (some ⟨g, 0, none⟩)] W fun e W' => e = .returned (.int .i64 1) ∧ RGD w b g r p q W' :=
  (laid_done g r p q W h.2).mono fun e W' ⟨he, hw⟩ => ⟨he, by rw [hw]; exact h⟩
theorem RG.cell (h : RG w b g r p q W) {a : Addr} {v : Value} (ha : a.block < w.heap.size) (hc : w.cell? a = some v) : W.cell? a = some v := (h.2.2.1.cell ha).trans hc
end
end Go.Proofs.Ytomaojmccchibaa.X
