/- What the rows' list gives: the cells of the library's table, and bits.TrailingZeros64 over it. -/
import Derived.Test.YtbaklgemdljmeaaDoorXx0
import Derived.Test.YtbaklgemdljmeaaDoorRows
import Derived.Lib.LaidTab
import Derived.Shelf.Spec.TrailingZeros
namespace Go.Proofs.YtbaklgemdljmeaaDoor.X
open Go.RowKit Go.Proofs.YtbaklgemdljmeaaDoorW.PrintWords Go.Proofs.YtbaklgemdljmeaaDoorW.PrintLast Go.Proofs.YtbaklgemdljmeaaDoorW.PrintMore
set_option linter.unusedVariables false
set_option linter.unusedSimpArgs false

def Laid (w : World) : Prop := TabAt 0 Lib.deBruijn64tab w
theorem laid_below {w w' : World} (h : Laid w) (hb : Below w.heap.size w w') : Laid w' := fun j hj => pw_cell_below hb (h j hj)
theorem gTab : Tryd.prog.globalNamed "math/bits.deBruijn64tab" = some 0 := by kernel_rfl
set_option maxHeartbeats 1000000 in
theorem tz64_core (x k idx : Nat) (w : World) (hx0 : ((x : Int) == 0) = false)
    (key : IntKind.u64.wrap (bits BinOp.and IntKind.u64 (x : Int) (IntKind.u64.wrap (-(x : Int))) * 285870213051353865) / 288230376151711744 = (idx : Int))
    (hi : idx < 64) (hk : k < 64) (hcell : w.cell? ⟨0, idx, none⟩ = some (.int .u8 k)) :
    Calls Tryd.prog 23 #[.int .u64 x] w fun e w' => e = .returned (.int .i64 k) ∧ w' = w := by
  go_enter Tryd.func23, Tryd.ntmps23
  go_wp2_with (simp only [key])
  go_ret
  exact ⟨rfl, rfl⟩
theorem tz64_zero (w : World) : Calls Tryd.prog 23 #[.int .u64 0] w fun e w' => e = .returned (.int .i64 64) ∧ w' = w := by
  go_enter Tryd.func23, Tryd.ntmps23
  go_wp2
  go_ret
  exact ⟨rfl, rfl⟩
theorem tz64 (x : Nat) (hx : x < 18446744073709551616) (w : World) (hT : Laid w) :
    Calls Tryd.prog 23 #[.int .u64 x] w fun e w' => e = .returned (.int .i64 (Lib.ctz 64 x)) ∧ w' = w := by
  by_cases hx0 : x = 0
  · subst hx0
    exact tz64_zero w
  · obtain ⟨hlow, hk⟩ := Lib.lowest_bit 64 x hx0 hx
    obtain ⟨hi, htab⟩ := Lib.deBruijn64_at _ hk
    have hcell := hT _ hi
    rw [htab] at hcell
    exact tz64_core x _ _ w (by simp; omega) (tz64_key x _ hx hx0 hlow) hi hk hcell
theorem tTab : (Tryd.prog.globals[0]?).map (·.type) = some 51 := by kernel_rfl
theorem laid_of {W : World} (h : laidMet Tryd.prog [("math/bits.deBruijn64tab", Rows.laid_math_bits_deBruijn64tab)] W) : Laid W := by
  have hT : Lib.TabIs Tryd.prog W "math/bits.deBruijn64tab" .u8 (Lib.deBruijn64tab.map (fun n : Nat => (n : Int))) := Lib.tabIs_of_head (rest := []) gTab tTab Tryd.underlying51 Tryd.underlying5 (by kernel_rfl) (by kernel_rfl) h
  intro j hj
  have := hT.cell gTab j (by simpa using hj)
  rw [this]
  simp [hj]
end Go.Proofs.YtbaklgemdljmeaaDoor.X
