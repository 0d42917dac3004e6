/- What the rows' lists give: the cells of the two tables of package phase. -/
import Derived.Test.YtpnofbiflaahhaaDoorXx0
import Derived.Test.YtpnofbiflaahhaaDoorRows
import Derived.Lib.LaidTab
namespace Go.Proofs.YtpnofbiflaahhaaDoor.X
open Go.RowKit Go.Proofs.YtpnofbiflaahhaaDoorW.PrintWords Go.Proofs.YtpnofbiflaahhaaDoorW.PrintLast Go.Proofs.YtpnofbiflaahhaaDoorW.PrintMore

theorem cells_of_strs {H : Type} {enc : TypeId × Value → H} {P : Program} {w : World} {base : Nat} {sp : Nat → Bool} {held : Bool} {fuel : Nat} {t e : TypeId} {n : Nat} {cs : List Value} {zs : List ByteArray} {p : List MemPlace}
    (ht : P.underlying t = some (.array n e)) (he : P.underlying e = some .string) (hce : P.cellsOf e = 1) (hct : P.cellsOf t = n)
    (h : DataW.trod enc P w base sp held fuel t cs = some (.agg (zs.map fun z => .lit (.string z.data.toList)), p)) : cs = zs.map fun z => Value.string z := by
  cases fuel with
  | zero => simp [DataW.trod] at h
  | succ fuel =>
    simp only [DataW.trod, ht, hce, hct, Nat.mul_one] at h
    split at h
    · rename_i hl
      obtain ⟨xs, hm, hx⟩ := Option.map_eq_some_iff.1 h
      have hxs : xs.map (·.1) = zs.map fun z => (DataW.lit (.string z.data.toList) : DataW H) := by
        have := congrArg Prod.fst hx
        simpa using this
      have hxl : xs.length = n := by simpa using Lib.mapM_length hm
      have hzl : zs.length = n := by
        have := congrArg List.length hxs
        simp at this
        omega
      apply List.ext_getElem?
      intro i
      by_cases hi : i < n
      · obtain ⟨b, hb, hf⟩ := Lib.mapM_at hm i i (by simp [hi])
        obtain ⟨z, hc, rfl, _⟩ := DataW.trod_string he hf
        have h1 : cs[i]? = some (.string z) := by
          have := congrArg (·[0]?) hc
          simpa [List.getElem?_take, List.getElem?_drop] using this
        have h2 : (xs.map (·.1))[i]? = some (DataW.lit (.string z.data.toList) : DataW H) := by simp [hb]
        rw [hxs] at h2
        simp only [List.getElem?_map, Option.map_eq_some_iff, DataW.lit.injEq, Lit.string.injEq] at h2
        obtain ⟨z', hz', hzz⟩ := h2
        have : z' = z := by
          cases z' with | mk d' => cases z with | mk d => simp only [ByteArray.mk.injEq]; exact Array.toList_inj.1 hzz
        subst this
        simp [h1, hz']
      · rw [List.getElem?_eq_none (by omega), List.getElem?_eq_none (by simp; omega)]
    · cases h

def namesL : List ByteArray := [⟨#[110, 111, 114, 109, 97, 108]⟩, ⟨#[115, 116, 97, 108, 108, 101, 100]⟩, ⟨#[114, 101, 99, 97, 108, 108]⟩, ⟨#[112, 97, 114, 107, 101, 100]⟩, ⟨#[115, 101, 114, 118, 105, 110, 103]⟩, ⟨#[111, 117, 116]⟩]
def nextL : List Int := [35, 39, 46, 59, 59, 35]
def Laid (w : World) : Prop := (∀ i v, namesL[i]? = some v → w.cell? ⟨0, i, none⟩ = some (.string v)) ∧ (∀ i v, nextL[i]? = some v → w.cell? ⟨1, i, none⟩ = some (.int .i64 v))
theorem laid_below {w w' : World} (h : Laid w) (hb : Below w.heap.size w w') : Laid w' :=
  ⟨fun i v hv => pw_cell_below hb (h.1 i v hv), fun i v hv => pw_cell_below hb (h.2 i v hv)⟩

theorem gNames : Tryd.prog.globalNamed "paternoster/phase.names" = some 0 := by kernel_rfl
theorem gNext : Tryd.prog.globalNamed "paternoster/phase.next" = some 1 := by kernel_rfl
theorem tNames : (Tryd.prog.globals[0]?).map (·.type) = some 34 := by kernel_rfl
theorem tNext : (Tryd.prog.globals[1]?).map (·.type) = some 36 := by kernel_rfl
theorem laid_of {W : World} (h : laidMet Tryd.prog [("paternoster/phase.names", Rows.laid_paternoster_phase_names), ("paternoster/phase.next", Rows.laid_paternoster_phase_next)] W) : Laid W := by
  obtain ⟨ps, ⟨g', t', cs, fuel, p, q, hg', ht', hvar, hd, ⟨g2, t2, cs2, fuel2, p2, q2, hg2, ht2, hvar2, hd2, _, _⟩, _⟩, _⟩ := h
  obtain rfl := Option.some.inj (gNames.symm.trans hg')
  obtain rfl := Option.some.inj (tNames.symm.trans ht')
  obtain rfl := Option.some.inj (gNext.symm.trans hg2)
  obtain rfl := Option.some.inj (tNext.symm.trans ht2)
  have e1 := cells_of_strs (zs := namesL) Tryd.underlying34 Tryd.underlying9 (by kernel_rfl) (by kernel_rfl) hd
  have e2 := Lib.cells_of_tab (k := .i64) (zs := nextL) Tryd.underlying36 Tryd.underlying3 (by kernel_rfl) (by kernel_rfl) hd2
  refine ⟨fun i v hv => ?_, fun i v hv => ?_⟩
  · rw [World.var?_cell gNames hvar i, ← Array.getElem?_toList, e1]; simp [hv]
  · rw [World.var?_cell gNext hvar2 i, ← Array.getElem?_toList, e2]; simp [hv]
end Go.Proofs.YtpnofbiflaahhaaDoor.X
