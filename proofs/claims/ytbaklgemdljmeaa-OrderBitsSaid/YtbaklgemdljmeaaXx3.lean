-- Written by a program of this session (wip/xprint/xprint.py runs the kit's print with hand-proved externs).
import Derived.Test.YtbaklgemdljmeaaXx0
import Derived.Test.YtbaklgemdljmeaaXx1
namespace Go.Proofs.Ytbaklgemdljmeaa.X
open Go.RowKit Go.Proofs.YtbaklgemdljmeaaW.PrintWords Go.Proofs.YtbaklgemdljmeaaW.PrintLast Go.Proofs.YtbaklgemdljmeaaW.PrintMore
attribute [local go_sem] max2_int min2_int max_two min_two max_three min_three max_four min_four   -- for this text's walks alone
set_option linter.unusedVariables false
set_option linter.unusedSimpArgs false

/-! ### order_Has: function 8 -/
def order_Has.f (a0 : Int) (a1 : Int) : Option (Bool) := (order_bit.f a1).bind fun t110 => (some ((Go.bits .and .u64 a0 t110) != 0))
set_option maxHeartbeats 8000000 in
set_option maxRecDepth 100000 in
theorem order_Has.calls (a0 : Int) (a1 : Int) (r : Bool) (w : World) (h : order_Has.f a0 a1 = some r) :
    Calls Try.prog 8 #[.int .u64 a0, .int .i64 a1] w fun e w' => e = .returned (.bool r) ∧ Drawn0 w w' := by
  have H : ((order_bit.f a1).bind fun t110 => (some ((Go.bits .and .u64 a0 t110) != 0))) = some r := h
  clear h
  replace H := Option.bind_eq_some_iff.mp H
  obtain ⟨t110, A30, H⟩ := H
  replace H : (some ((Go.bits .and .u64 a0 t110) != 0)) = some r := H
  have A3 := Aside0.mk A30
  clear A30
  obtain rfl := Option.some.inj H
  go_enter Try.func8, Try.ntmps8
  go_wp2_with (first | ((with_reducible refine gate_callee (f := 16) rfl ?_); refine goesL_ (some 7) rfl rfl Try.func16 (by kernel_rfl) rfl #[.int .i64 a1] rfl (by (try simp only [List.map_toArray, List.map_cons, List.map_nil]); first | done | rfl | (simp only [List.length_drop, List.length_take]; rfl)) ?_; (with_reducible refine (order_bit.calls a1 t110 _ A3.out).mono ?_); rintro e w' ⟨rfl, ⟨nd, rfl⟩⟩; refine ⟨_, rfl, ?_⟩))
  go_ret
  exact ⟨by first | rfl | (simp; done) | (simp [*]; done), by repeat (first | exact Drawn0.refl _ | apply Drawn0.step)⟩

end Go.Proofs.Ytbaklgemdljmeaa.X
