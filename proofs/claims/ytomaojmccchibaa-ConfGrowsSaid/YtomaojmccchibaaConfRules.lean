/- What must hold of a group, rule by rule. -/
import Derived.Test.YtomaojmccchibaaXx8
import Derived.Test.YtomaojmccchibaaRatesPlain
import Derived.Tactics2
import Derived.Laws.Pointers
namespace Go.Proofs.Ytomaojmccchibaa.X
open Go.RowKit Go.Proofs.YtomaojmccchibaaW.PrintWords Go.Proofs.YtomaojmccchibaaW.PrintLast Go.Proofs.YtomaojmccchibaaW.PrintMore
set_option linter.unusedVariables false
set_option linter.unusedSimpArgs false

/-- Within bounds. -/
def inV (x a b : Int) : Bool := decide (a ≤ x) && decide (x ≤ b)
theorem in_any (x a b : Int) (w : World) : Calls Try.prog 62 #[.int .i64 x, .int .i64 a, .int .i64 b] w fun e w' => e = .returned (.bool (inV x a b)) ∧ Drawn0 w w' := by
  refine conf_in.calls x a b (inV x a b) w ?_
  unfold conf_in.f inV
  by_cases h : x ≥ a
  · rw [if_pos h, decide_eq_true (show a ≤ x from h), Bool.true_and]
  · rw [if_neg h, decide_eq_false (show ¬ a ≤ x from h), Bool.false_and]
theorem in_b {x a b : Int} {r : Bool} (h : inV x a b = r) (w : World) : Calls Try.prog 62 #[.int .i64 x, .int .i64 a, .int .i64 b] w fun e w' => e = .returned (.bool r) ∧ Drawn0 w w' := by
  subst h; exact in_any x a b w
theorem rates_any (r : S36) (w : World) : Calls Try.prog 28 #[.agg #[.int .i64 r.f0, .int .i64 r.f1, .int .i64 r.f2, .int .i64 r.f3, .int .i64 r.f4, .int .i64 r.f5]] w fun e w' => e = .returned (.bool (decide (Ok r))) ∧ Below w.heap.size w w' :=
  rates_Check.calls _ _ _ _ _ _ _ w (check_f r)
/-- A group as a value. -/
def confV (A B : Option Addr) (n cn m cm : Nat) (x1 x2 x4 x5 x6 x7 x8 x9 x10 x11 x12 : Int) : Value :=
  .agg #[.slice A n cn, .int .i64 x1, .int .i64 x2, .slice B m cm, .int .i64 x4, .int .i64 x5, .int .i64 x6, .int .i64 x7, .int .i64 x8, .int .i64 x9, .int .i64 x10, .int .i64 x11, .int .i64 x12]
section
variable (A B : Option Addr) (n cn m cm : Nat) (x1 x2 x4 x5 x6 x7 x8 x9 x10 x11 x12 : Int) (w : World)
set_option maxRecDepth 100000 in
theorem rule1 : Calls Try.prog 61 #[confV A B n cn m cm x1 x2 x4 x5 x6 x7 x8 x9 x10 x11 x12] w fun e w' => e = .returned (.bool (inV n 1 8)) ∧ Below w.heap.size w w' := by
  unfold confV
  obtain ⟨b0, h0⟩ : ∃ b, inV n 1 8 = b := ⟨_, rfl⟩
  rw [h0]
  have H0 := Aside0.mk h0
  clear h0
  go_enter Try.func61, Try.ntmps61
  go_wp2_with (first | (go_at_call 62; with_reducible refine (in_b (x := n) (a := 1) (b := 8) H0.out _).mono ?_; rintro e w1 ⟨rfl, nd, rfl⟩))
  go_ret
  exact ⟨rfl, by repeat (with_reducible first | exact Below.refl _ _ | apply below_alloc | apply pw_below_drewN | apply below_drew1)⟩
set_option maxRecDepth 100000 in
theorem rule3 : Calls Try.prog 66 #[confV A B n cn m cm x1 x2 x4 x5 x6 x7 x8 x9 x10 x11 x12] w fun e w' => e = .returned (.bool (inV x1 2 32 && inV x2 0 (wrap64 (x1 - 1)))) ∧ Below w.heap.size w w' := by
  unfold confV
  obtain ⟨b0, h0⟩ : ∃ b, inV x1 2 32 = b := ⟨_, rfl⟩
  rw [h0]
  have H0 := Aside0.mk h0
  clear h0
  obtain ⟨b1, h1⟩ : ∃ b, inV x2 0 (wrap64 (x1 - 1)) = b := ⟨_, rfl⟩
  rw [h1]
  have H1 := Aside0.mk h1
  clear h1
  cases b0 with
  | false =>
    go_enter Try.func66, Try.ntmps66
    go_wp2_with (first | (go_at_call 62; with_reducible refine (in_b (x := x1) (a := 2) (b := 32) H0.out _).mono ?_; rintro e w1 ⟨rfl, nd, rfl⟩))
    go_ret
    exact ⟨rfl, by repeat (with_reducible first | exact Below.refl _ _ | apply below_alloc | apply pw_below_drewN | apply below_drew1)⟩
  | true =>
    go_enter Try.func66, Try.ntmps66
    go_wp2_with (first | (go_at_call 62; with_reducible refine (in_b (x := x1) (a := 2) (b := 32) H0.out _).mono ?_; rintro e w1 ⟨rfl, nd, rfl⟩) | (go_at_call 62; with_reducible refine (in_b (x := x2) (a := 0) (b := (wrap64 (x1 - 1))) H1.out _).mono ?_; rintro e w1 ⟨rfl, nd, rfl⟩))
    go_ret
    exact ⟨rfl, by repeat (with_reducible first | exact Below.refl _ _ | apply below_alloc | apply pw_below_drewN | apply below_drew1)⟩
set_option maxRecDepth 100000 in
theorem rule4 : Calls Try.prog 67 #[confV A B n cn m cm x1 x2 x4 x5 x6 x7 x8 x9 x10 x11 x12] w fun e w' => e = .returned (.bool (inV x4 1 8 && inV x5 1 16)) ∧ Below w.heap.size w w' := by
  unfold confV
  obtain ⟨b0, h0⟩ : ∃ b, inV x4 1 8 = b := ⟨_, rfl⟩
  rw [h0]
  have H0 := Aside0.mk h0
  clear h0
  obtain ⟨b1, h1⟩ : ∃ b, inV x5 1 16 = b := ⟨_, rfl⟩
  rw [h1]
  have H1 := Aside0.mk h1
  clear h1
  cases b0 with
  | false =>
    go_enter Try.func67, Try.ntmps67
    go_wp2_with (first | (go_at_call 62; with_reducible refine (in_b (x := x4) (a := 1) (b := 8) H0.out _).mono ?_; rintro e w1 ⟨rfl, nd, rfl⟩))
    go_ret
    exact ⟨rfl, by repeat (with_reducible first | exact Below.refl _ _ | apply below_alloc | apply pw_below_drewN | apply below_drew1)⟩
  | true =>
    go_enter Try.func67, Try.ntmps67
    go_wp2_with (first | (go_at_call 62; with_reducible refine (in_b (x := x4) (a := 1) (b := 8) H0.out _).mono ?_; rintro e w1 ⟨rfl, nd, rfl⟩) | (go_at_call 62; with_reducible refine (in_b (x := x5) (a := 1) (b := 16) H1.out _).mono ?_; rintro e w1 ⟨rfl, nd, rfl⟩))
    go_ret
    exact ⟨rfl, by repeat (with_reducible first | exact Below.refl _ _ | apply below_alloc | apply pw_below_drewN | apply below_drew1)⟩
set_option maxRecDepth 100000 in
theorem rule6 : Calls Try.prog 71 #[confV A B n cn m cm x1 x2 x4 x5 x6 x7 x8 x9 x10 x11 x12] w fun e w' => e = .returned (.bool (inV x9 0 8 && inV x11 0 100 && inV x12 0 1048576)) ∧ Below w.heap.size w w' := by
  unfold confV
  obtain ⟨b0, h0⟩ : ∃ b, inV x9 0 8 = b := ⟨_, rfl⟩
  rw [h0]
  have H0 := Aside0.mk h0
  clear h0
  obtain ⟨b1, h1⟩ : ∃ b, inV x11 0 100 = b := ⟨_, rfl⟩
  rw [h1]
  have H1 := Aside0.mk h1
  clear h1
  obtain ⟨b2, h2⟩ : ∃ b, inV x12 0 1048576 = b := ⟨_, rfl⟩
  rw [h2]
  have H2 := Aside0.mk h2
  clear h2
  cases b0 with
  | false =>
    go_enter Try.func71, Try.ntmps71
    go_wp2_with (first | (go_at_call 62; with_reducible refine (in_b (x := x9) (a := 0) (b := 8) H0.out _).mono ?_; rintro e w1 ⟨rfl, nd, rfl⟩))
    go_ret
    exact ⟨rfl, by repeat (with_reducible first | exact Below.refl _ _ | apply below_alloc | apply pw_below_drewN | apply below_drew1)⟩
  | true =>
    cases b1 with
    | false =>
      go_enter Try.func71, Try.ntmps71
      go_wp2_with (first | (go_at_call 62; with_reducible refine (in_b (x := x9) (a := 0) (b := 8) H0.out _).mono ?_; rintro e w1 ⟨rfl, nd, rfl⟩) | (go_at_call 62; with_reducible refine (in_b (x := x11) (a := 0) (b := 100) H1.out _).mono ?_; rintro e w1 ⟨rfl, nd, rfl⟩))
      go_ret
      exact ⟨rfl, by repeat (with_reducible first | exact Below.refl _ _ | apply below_alloc | apply pw_below_drewN | apply below_drew1)⟩
    | true =>
      go_enter Try.func71, Try.ntmps71
      go_wp2_with (first | (go_at_call 62; with_reducible refine (in_b (x := x9) (a := 0) (b := 8) H0.out _).mono ?_; rintro e w1 ⟨rfl, nd, rfl⟩) | (go_at_call 62; with_reducible refine (in_b (x := x11) (a := 0) (b := 100) H1.out _).mono ?_; rintro e w1 ⟨rfl, nd, rfl⟩) | (go_at_call 62; with_reducible refine (in_b (x := x12) (a := 0) (b := 1048576) H2.out _).mono ?_; rintro e w1 ⟨rfl, nd, rfl⟩))
      go_ret
      exact ⟨rfl, by repeat (with_reducible first | exact Below.refl _ _ | apply below_alloc | apply pw_below_drewN | apply below_drew1)⟩
end
end Go.Proofs.Ytomaojmccchibaa.X
