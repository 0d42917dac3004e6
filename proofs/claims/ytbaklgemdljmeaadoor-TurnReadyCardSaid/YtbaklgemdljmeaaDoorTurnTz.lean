/- bits.TrailingZeros64 in the printed contract's shape. -/
import Derived.Test.YtbaklgemdljmeaaDoorLaid
namespace Go.Proofs.YtbaklgemdljmeaaDoor.X
open Go.RowKit Go.Proofs.YtbaklgemdljmeaaDoorW.PrintWords Go.Proofs.YtbaklgemdljmeaaDoorW.PrintLast Go.Proofs.YtbaklgemdljmeaaDoorW.PrintMore
def bits_TrailingZeros64.f (a0 : Int) : Option (Int) := if 0 ≤ a0 ∧ a0 < 18446744073709551616 then some (Lib.ctz 64 a0.toNat : Nat) else none
theorem bits_TrailingZeros64.calls (a0 : Int) (r : Int) (w : World) (h : bits_TrailingZeros64.f a0 = some r) (LA0 : Laid w) :
    Calls Tryd.prog 23 #[.int .u64 a0] w fun e w' => e = .returned (.int .i64 r) ∧ Below w.heap.size w w' := by
  unfold bits_TrailingZeros64.f at h
  by_cases c : 0 ≤ a0 ∧ a0 < 18446744073709551616
  · rw [if_pos c] at h
    obtain rfl := Option.some.inj h
    obtain ⟨n, rfl⟩ : ∃ n : Nat, a0 = n := ⟨a0.toNat, by omega⟩
    refine (tz64 n (by omega) w LA0).mono ?_
    rintro e w' ⟨rfl, rfl⟩
    exact ⟨rfl, Below.refl _ _⟩
  · rw [if_neg c] at h; cases h
end Go.Proofs.YtbaklgemdljmeaaDoor.X
