-- Written by a program of this session (wip/xprint/xprint.py runs the kit's print with hand-proved externs).
import Derived.Test.YtbaklgemdljmeaaXx0
import Derived.Test.YtbaklgemdljmeaaXx1
import Derived.Test.YtbaklgemdljmeaaXx2
import Derived.Test.YtbaklgemdljmeaaXx3
import Derived.Test.YtbaklgemdljmeaaXx8
namespace Go.Proofs.Ytbaklgemdljmeaa.X
open Go.RowKit Go.Proofs.YtbaklgemdljmeaaW.PrintWords Go.Proofs.YtbaklgemdljmeaaW.PrintLast Go.Proofs.YtbaklgemdljmeaaW.PrintMore
attribute [local go_sem] max2_int min2_int max_two min_two max_three min_three max_four min_four   -- for this text's walks alone
set_option linter.unusedVariables false
set_option linter.unusedSimpArgs false

/-! ### paternosterlaw19_OrderBits: function 6 -/
mutual
def paternosterlaw19_OrderBits.j0 : Nat → Int → Int → Int → Int → Int → Bool → Option (Bool)
  | 0, _, _, _, _, _, _ => none
  | k + 1, x0, x1, x2, x8, x9, x10 => (order_Has.f x8 x1).bind fun t163 => (if (t163 != x10) = true then (paternosterlaw19_OrderBits.j1 k x0 x1 x2 x8 x9 true) else ((order_Has.f x9 x1).bind fun t164 => (if t164 = true then (paternosterlaw19_OrderBits.j1 k x0 x1 x2 x8 x9 true) else ((order_With.f x9 x1).bind fun t165 => (if t165 = x8 then ((order_Without.f x8 x1).bind fun t166 => (paternosterlaw19_OrderBits.j1 k x0 x1 x2 x8 x9 (t166 != x9))) else (paternosterlaw19_OrderBits.j1 k x0 x1 x2 x8 x9 true))))))
def paternosterlaw19_OrderBits.j1 : Nat → Int → Int → Int → Int → Int → Bool → Option (Bool)
  | 0, _, _, _, _, _, _ => none
  | k + 1, x0, x1, x2, x8, x9, x49 => if x49 = true then (some false) else (if x2 = x1 then (paternosterlaw19_OrderBits.j2 k x0 x1 x8 x9 false) else ((order_Has.f x8 x2).bind fun t167 => ((order_Has.f x0 x2).bind fun t168 => (if (t167 != t168) = true then (paternosterlaw19_OrderBits.j2 k x0 x1 x8 x9 true) else ((order_Has.f x9 x2).bind fun t169 => (paternosterlaw19_OrderBits.j2 k x0 x1 x8 x9 (t169 != t168)))))))
def paternosterlaw19_OrderBits.j2 : Nat → Int → Int → Int → Int → Bool → Option (Bool)
  | 0, _, _, _, _, _ => none
  | k + 1, x0, x1, x8, x9, x70 => if x70 = true then (some false) else ((order_With.f x8 x1).bind fun t170 => (if t170 = x8 then ((order_Without.f x9 x1).bind fun t171 => (if t171 = x9 then (if x8 = x0 then (some true) else (some (x9 == x0))) else (some false))) else (some false)))
end
def paternosterlaw19_OrderBits.f (k : Nat) (a0 : Int) (a1 : Int) (a2 : Int) : Option (Bool) := (paternosterlaw19_awake.f).bind fun t160 => (if t160 = true then ((order_With.f a0 a1).bind fun t161 => ((order_Without.f a0 a1).bind fun t162 => (if a1 ≥ 0 then (paternosterlaw19_OrderBits.j0 k a0 a1 a2 t161 t162 (decide (a1 < 64))) else (paternosterlaw19_OrderBits.j0 k a0 a1 a2 t161 t162 false)))) else (some false))
theorem paternosterlaw19_OrderBits.mono_l : ∀ k, (∀ y0 y1 y2 y3 y4 y5, LeO (paternosterlaw19_OrderBits.j0 k y0 y1 y2 y3 y4 y5) (paternosterlaw19_OrderBits.j0 (k + 1) y0 y1 y2 y3 y4 y5)) ∧ (∀ y0 y1 y2 y3 y4 y5, LeO (paternosterlaw19_OrderBits.j1 k y0 y1 y2 y3 y4 y5) (paternosterlaw19_OrderBits.j1 (k + 1) y0 y1 y2 y3 y4 y5)) ∧ (∀ y0 y1 y2 y3 y4, LeO (paternosterlaw19_OrderBits.j2 k y0 y1 y2 y3 y4) (paternosterlaw19_OrderBits.j2 (k + 1) y0 y1 y2 y3 y4))
  | 0 => ⟨fun _ _ _ _ _ _ r h => by simp [paternosterlaw19_OrderBits.j0] at h, fun _ _ _ _ _ _ r h => by simp [paternosterlaw19_OrderBits.j1] at h, fun _ _ _ _ _ r h => by simp [paternosterlaw19_OrderBits.j2] at h⟩
  | k + 1 => by
    obtain ⟨ih0, ih1, ih2⟩ := paternosterlaw19_OrderBits.mono_l k
    refine ⟨?_, ?_, ?_⟩
    · intro y0 y1 y2 y3 y4 y5
      unfold paternosterlaw19_OrderBits.j0
      repeat' first
      | (with_reducible exact ih0 _ _ _ _ _ _)
      | (with_reducible exact ih1 _ _ _ _ _ _)
      | (with_reducible exact ih2 _ _ _ _ _)
      | (with_reducible exact LeO.refl _)
      | (with_reducible exact LeO.none _)
      | (with_reducible refine LeO.ite ?_ ?_)
      | (with_reducible refine LeO.bind ?_ (fun _ => ?_))
      | exact ih0 _ _ _ _ _ _
      | exact ih1 _ _ _ _ _ _
      | exact ih2 _ _ _ _ _
      | exact LeO.none _
      | refine LeO.ite ?_ ?_
      | refine LeO.bind ?_ (fun _ => ?_)
    · intro y0 y1 y2 y3 y4 y5
      unfold paternosterlaw19_OrderBits.j1
      repeat' first
      | (with_reducible exact ih0 _ _ _ _ _ _)
      | (with_reducible exact ih1 _ _ _ _ _ _)
      | (with_reducible exact ih2 _ _ _ _ _)
      | (with_reducible exact LeO.refl _)
      | (with_reducible exact LeO.none _)
      | (with_reducible refine LeO.ite ?_ ?_)
      | (with_reducible refine LeO.bind ?_ (fun _ => ?_))
      | exact ih0 _ _ _ _ _ _
      | exact ih1 _ _ _ _ _ _
      | exact ih2 _ _ _ _ _
      | exact LeO.none _
      | refine LeO.ite ?_ ?_
      | refine LeO.bind ?_ (fun _ => ?_)
    · intro y0 y1 y2 y3 y4
      unfold paternosterlaw19_OrderBits.j2
      repeat' first
      | (with_reducible exact ih0 _ _ _ _ _ _)
      | (with_reducible exact ih1 _ _ _ _ _ _)
      | (with_reducible exact ih2 _ _ _ _ _)
      | (with_reducible exact LeO.refl _)
      | (with_reducible exact LeO.none _)
      | (with_reducible refine LeO.ite ?_ ?_)
      | (with_reducible refine LeO.bind ?_ (fun _ => ?_))
      | exact ih0 _ _ _ _ _ _
      | exact ih1 _ _ _ _ _ _
      | exact ih2 _ _ _ _ _
      | exact LeO.none _
      | refine LeO.ite ?_ ?_
      | refine LeO.bind ?_ (fun _ => ?_)
theorem paternosterlaw19_OrderBits.mono : ∀ a0 a1 a2 k, LeO (paternosterlaw19_OrderBits.f k a0 a1 a2) (paternosterlaw19_OrderBits.f (k + 1) a0 a1 a2) := by
  intro a0 a1 a2 k
  obtain ⟨ih0, ih1, ih2⟩ := paternosterlaw19_OrderBits.mono_l k
  unfold paternosterlaw19_OrderBits.f
  repeat' first
      | (with_reducible exact ih0 _ _ _ _ _ _)
      | (with_reducible exact ih1 _ _ _ _ _ _)
      | (with_reducible exact ih2 _ _ _ _ _)
      | (with_reducible exact LeO.refl _)
      | (with_reducible exact LeO.none _)
      | (with_reducible refine LeO.ite ?_ ?_)
      | (with_reducible refine LeO.bind ?_ (fun _ => ?_))
      | exact ih0 _ _ _ _ _ _
      | exact ih1 _ _ _ _ _ _
      | exact ih2 _ _ _ _ _
      | exact LeO.none _
      | refine LeO.ite ?_ ?_
      | refine LeO.bind ?_ (fun _ => ?_)
set_option maxHeartbeats 8000000 in
set_option maxRecDepth 100000 in
theorem paternosterlaw19_OrderBits.calls (k : Nat) (a0 : Int) (a1 : Int) (a2 : Int) (r : Bool) (w : World) (h : paternosterlaw19_OrderBits.f k a0 a1 a2 = some r) :
    Calls Try.prog 6 #[.int .u64 a0, .int .i64 a1, .int .i64 a2] w fun e w' => e = .returned (.bool r) ∧ Below w.heap.size w w' := by
  have HB := Aside0.mk (Below.refl w.heap.size w)
  have H : ((paternosterlaw19_awake.f).bind fun t160 => (if t160 = true then ((order_With.f a0 a1).bind fun t161 => ((order_Without.f a0 a1).bind fun t162 => (if a1 ≥ 0 then (paternosterlaw19_OrderBits.j0 k a0 a1 a2 t161 t162 (decide (a1 < 64))) else (paternosterlaw19_OrderBits.j0 k a0 a1 a2 t161 t162 false)))) else (some false))) = some r := h
  clear h
  replace H := Option.bind_eq_some_iff.mp H
  obtain ⟨t160, A40, H⟩ := H
  replace H : (if t160 = true then ((order_With.f a0 a1).bind fun t161 => ((order_Without.f a0 a1).bind fun t162 => (if a1 ≥ 0 then (paternosterlaw19_OrderBits.j0 k a0 a1 a2 t161 t162 (decide (a1 < 64))) else (paternosterlaw19_OrderBits.j0 k a0 a1 a2 t161 t162 false)))) else (some false)) = some r := H
  have A4 := Aside0.mk A40
  clear A40
  by_cases c5 : t160 = true
  · subst c5
    have H1 : ((order_With.f a0 a1).bind fun t161 => ((order_Without.f a0 a1).bind fun t162 => (if a1 ≥ 0 then (paternosterlaw19_OrderBits.j0 k a0 a1 a2 t161 t162 (decide (a1 < 64))) else (paternosterlaw19_OrderBits.j0 k a0 a1 a2 t161 t162 false)))) = some r := by rw [if_pos rfl] at H; exact H
    clear H
    have H := H1
    clear H1
    replace H := Option.bind_eq_some_iff.mp H
    obtain ⟨t161, A60, H⟩ := H
    replace H : ((order_Without.f a0 a1).bind fun t162 => (if a1 ≥ 0 then (paternosterlaw19_OrderBits.j0 k a0 a1 a2 t161 t162 (decide (a1 < 64))) else (paternosterlaw19_OrderBits.j0 k a0 a1 a2 t161 t162 false))) = some r := H
    have A6 := Aside0.mk A60
    clear A60
    replace H := Option.bind_eq_some_iff.mp H
    obtain ⟨t162, A70, H⟩ := H
    replace H : (if a1 ≥ 0 then (paternosterlaw19_OrderBits.j0 k a0 a1 a2 t161 t162 (decide (a1 < 64))) else (paternosterlaw19_OrderBits.j0 k a0 a1 a2 t161 t162 false)) = some r := H
    have A7 := Aside0.mk A70
    clear A70
    have HC8 := Aside0.mk H
    clear H
    go_enter Try.func6, Try.ntmps6
    go_upto_region 6 with (first | ((with_reducible refine gate_callee (f := 7) rfl ?_); refine goesL_ (some 11) rfl rfl Try.func7 (by kernel_rfl) rfl #[] rfl (by (try simp only [List.map_toArray, List.map_cons, List.map_nil]); first | done | rfl | (simp only [List.length_drop, List.length_take]; rfl)) ?_; (with_reducible refine (paternosterlaw19_awake.calls  true _ A4.out).mono ?_); rintro e w9 ⟨rfl, hb⟩; refine ⟨_, rfl, ?_⟩; have n0_ := Aside0.mk (below_step (by repeat (first | (with_reducible first | exact HB.out | apply below_alloc | apply pw_below_drewN | apply below_drew1) | exact HB.out)) hb); clear HB; have HB := n0_; clear n0_; (try clear hb); (try clear hb2); (try clear hk); (try clear hi)) | ((with_reducible refine gate_callee (f := 10) rfl ?_); refine goesL_ (some 16) rfl rfl Try.func10 (by kernel_rfl) rfl #[.int .u64 a0, .int .i64 a1] rfl (by (try simp only [List.map_toArray, List.map_cons, List.map_nil]); first | done | rfl | (simp only [List.length_drop, List.length_take]; rfl)) ?_; (with_reducible refine (order_With.calls a0 a1 t161 _ A6.out).mono ?_); rintro e w' ⟨rfl, ⟨nd, rfl⟩⟩; refine ⟨_, rfl, ?_⟩) | ((with_reducible refine gate_callee (f := 15) rfl ?_); refine goesL_ (some 19) rfl rfl Try.func15 (by kernel_rfl) rfl #[.int .u64 a0, .int .i64 a1] rfl (by (try simp only [List.map_toArray, List.map_cons, List.map_nil]); first | done | rfl | (simp only [List.length_drop, List.length_take]; rfl)) ?_; (with_reducible refine (order_Without.calls a0 a1 t162 _ A7.out).mono ?_); rintro e w' ⟨rfl, ⟨nd, rfl⟩⟩; refine ⟨_, rfl, ?_⟩))
    (try simp only [Act.put, List.setIfInBounds_toArray, List.set_cons_zero, List.set_cons_succ])
    go_cut [10] (fun v10 wc => ∃ (kq : Nat) (x10_7 : Bool), v10 = .bool x10_7 ∧ Aside0 (paternosterlaw19_OrderBits.j0 kq a0 a1 a2 t161 t162 x10_7 = some r) ∧ Aside0 (kq ≤ k) ∧ Aside0 (Below w.heap.size w wc))
    case first =>
      have H := HC8.out
      clear HC8
      by_cases c10 : a1 ≥ 0
      · rw [if_pos c10] at H
        have c10b0 : decide (0 ≤ a1) = true := decide_eq_true c10
        clear c10
        (first | rw [c10b0] | (simp only [i64_w, i32_w]; rw [c10b0]) | skip)
        have H' := Aside0.mk H
        clear H
        go_wp2
        go_meet
        case rel => exact ⟨_, (decide (a1 < 64)), (by first | rfl | (simp; done) | (simp [*]; done)), H', ⟨by first | omega | exact Nat.le_refl _⟩, ⟨by repeat (first | (with_reducible first | exact HB.out | apply below_alloc | apply pw_below_drewN | apply below_drew1) | exact HB.out)⟩⟩
      · rw [if_neg c10] at H
        have c10b0 : decide (0 ≤ a1) = false := decide_eq_false c10
        clear c10
        (first | rw [c10b0] | (simp only [i64_w, i32_w]; rw [c10b0]) | skip)
        have H' := Aside0.mk H
        clear H
        go_wp2
        go_meet
        case rel => exact ⟨_, (false), (by first | rfl | (simp; done) | (simp [*]; done)), H', ⟨by first | omega | exact Nat.le_refl _⟩, ⟨by repeat (first | (with_reducible first | exact HB.out | apply below_alloc | apply pw_below_drewN | apply below_drew1) | exact HB.out)⟩⟩
    case rest =>
      clear HC8
      try clear c1
      try clear p2
      try clear c5
      try clear c6
      try clear c7
      try clear c10
      try clear c10b0
      obtain ⟨kq, x10_7, rfl, HA, HJ7, HB⟩ := hcut
      cases kq with
      | zero => exact absurd HA.out (by simp [paternosterlaw19_OrderBits.j0])
      | succ kj7 =>
        have H := HA.out
        clear HA
        simp only [paternosterlaw19_OrderBits.j0] at H
        have HC11 := Aside0.mk H
        clear H
        go_upto_region 7 with (fail)
        go_cut [49] (fun v49 wc => ∃ (kq : Nat) (x49_10 : Bool), v49 = .bool x49_10 ∧ Aside0 (paternosterlaw19_OrderBits.j1 kq a0 a1 a2 t161 t162 x49_10 = some r) ∧ Aside0 (kq ≤ kj7) ∧ Aside0 (Below w.heap.size w wc))
        case first =>
          have H := HC11.out
          clear HC11
          replace H := Option.bind_eq_some_iff.mp H
          obtain ⟨t163, A120, H⟩ := H
          replace H : (if (t163 != x10_7) = true then (paternosterlaw19_OrderBits.j1 kj7 a0 a1 a2 t161 t162 true) else ((order_Has.f t162 a1).bind fun t164 => (if t164 = true then (paternosterlaw19_OrderBits.j1 kj7 a0 a1 a2 t161 t162 true) else ((order_With.f t162 a1).bind fun t165 => (if t165 = t161 then ((order_Without.f t161 a1).bind fun t166 => (paternosterlaw19_OrderBits.j1 kj7 a0 a1 a2 t161 t162 (t166 != t162))) else (paternosterlaw19_OrderBits.j1 kj7 a0 a1 a2 t161 t162 true)))))) = some r := H
          have A12 := Aside0.mk A120
          clear A120
          by_cases c13 : (t163 != x10_7) = true
          · rw [if_pos c13] at H
            have c13b0 : (t163 != x10_7) = true := c13
            (try (have c13b1 : decide (t163 = x10_7) = false := by simpa using c13))
            (try (have c13b2 : (t163 == x10_7) = false := by simpa using c13))
            (try (have c13b3 : ¬ (t163 = x10_7) := by simpa using c13))
            clear c13
            (first | rw [c13b0] | (simp only [i64_w, i32_w]; rw [c13b0]) | skip)
            have H' := Aside0.mk H
            clear H
            go_wp2_with (first | ((with_reducible refine gate_callee (f := 8) rfl ?_); refine goesL_ (some 28) rfl rfl Try.func8 (by kernel_rfl) rfl #[.int .u64 t161, .int .i64 a1] rfl (by (try simp only [List.map_toArray, List.map_cons, List.map_nil]); first | done | rfl | (simp only [List.length_drop, List.length_take]; rfl)) ?_; (with_reducible refine (order_Has.calls t161 a1 t163 _ A12.out).mono ?_); rintro e w' ⟨rfl, ⟨nd, rfl⟩⟩; refine ⟨_, rfl, ?_⟩))
            go_meet
            case rel => exact ⟨_, (true), (by first | rfl | (simp; done) | (simp [*]; done)), H', ⟨by have := HJ7.out; first | omega | exact Nat.le_refl _⟩, ⟨by repeat (first | (with_reducible first | exact HB.out | apply below_alloc | apply pw_below_drewN | apply below_drew1) | exact HB.out)⟩⟩
          · rw [if_neg c13] at H
            have c13b0 : (t163 != x10_7) = false := by simpa using c13
            (try (have c13b1 : decide (t163 = x10_7) = true := by simpa using c13))
            (try (have c13b2 : (t163 == x10_7) = true := by simpa using c13))
            clear c13
            (first | rw [c13b0] | (simp only [i64_w, i32_w]; rw [c13b0]) | skip)
            replace H := Option.bind_eq_some_iff.mp H
            obtain ⟨t164, A140, H⟩ := H
            replace H : (if t164 = true then (paternosterlaw19_OrderBits.j1 kj7 a0 a1 a2 t161 t162 true) else ((order_With.f t162 a1).bind fun t165 => (if t165 = t161 then ((order_Without.f t161 a1).bind fun t166 => (paternosterlaw19_OrderBits.j1 kj7 a0 a1 a2 t161 t162 (t166 != t162))) else (paternosterlaw19_OrderBits.j1 kj7 a0 a1 a2 t161 t162 true)))) = some r := H
            have A14 := Aside0.mk A140
            clear A140
            by_cases c15 : t164 = true
            · subst c15
              have H1 : (paternosterlaw19_OrderBits.j1 kj7 a0 a1 a2 t161 t162 true) = some r := by rw [if_pos rfl] at H; exact H
              clear H
              have H := H1
              clear H1
              have H' := Aside0.mk H
              clear H
              go_wp2_with (first | ((with_reducible refine gate_callee (f := 8) rfl ?_); refine goesL_ (some 28) rfl rfl Try.func8 (by kernel_rfl) rfl #[.int .u64 t161, .int .i64 a1] rfl (by (try simp only [List.map_toArray, List.map_cons, List.map_nil]); first | done | rfl | (simp only [List.length_drop, List.length_take]; rfl)) ?_; (with_reducible refine (order_Has.calls t161 a1 t163 _ A12.out).mono ?_); rintro e w' ⟨rfl, ⟨nd, rfl⟩⟩; refine ⟨_, rfl, ?_⟩) | (go_at_call 8; (with_reducible refine (order_Has.calls t162 a1 true _ A14.out).mono ?_); rintro e w' ⟨rfl, ⟨nd, rfl⟩⟩))
              go_meet
              case rel => exact ⟨_, (true), (by first | rfl | (simp; done) | (simp [*]; done)), H', ⟨by have := HJ7.out; first | omega | exact Nat.le_refl _⟩, ⟨by repeat (first | (with_reducible first | exact HB.out | apply below_alloc | apply pw_below_drewN | apply below_drew1) | exact HB.out)⟩⟩
            · replace c15 := Bool.eq_false_iff.mpr c15
              subst c15
              have H1 : ((order_With.f t162 a1).bind fun t165 => (if t165 = t161 then ((order_Without.f t161 a1).bind fun t166 => (paternosterlaw19_OrderBits.j1 kj7 a0 a1 a2 t161 t162 (t166 != t162))) else (paternosterlaw19_OrderBits.j1 kj7 a0 a1 a2 t161 t162 true))) = some r := by rw [if_neg (show ¬ (false = true) by decide)] at H; exact H
              clear H
              have H := H1
              clear H1
              replace H := Option.bind_eq_some_iff.mp H
              obtain ⟨t165, A160, H⟩ := H
              replace H : (if t165 = t161 then ((order_Without.f t161 a1).bind fun t166 => (paternosterlaw19_OrderBits.j1 kj7 a0 a1 a2 t161 t162 (t166 != t162))) else (paternosterlaw19_OrderBits.j1 kj7 a0 a1 a2 t161 t162 true)) = some r := H
              have A16 := Aside0.mk A160
              clear A160
              by_cases c17 : t165 = t161
              · rw [if_pos c17] at H
                have c17b0 : (t165 == t161) = true := beq_iff_eq.mpr c17
                have c17b1 : (t165 != t161) = false := bne_eq_false_iff_eq.mpr c17
                clear c17
                replace H := Option.bind_eq_some_iff.mp H
                obtain ⟨t166, A180, H⟩ := H
                replace H : (paternosterlaw19_OrderBits.j1 kj7 a0 a1 a2 t161 t162 (t166 != t162)) = some r := H
                have A18 := Aside0.mk A180
                clear A180
                have H' := Aside0.mk H
                clear H
                go_wp2_with (first | ((with_reducible refine gate_callee (f := 8) rfl ?_); refine goesL_ (some 28) rfl rfl Try.func8 (by kernel_rfl) rfl #[.int .u64 t161, .int .i64 a1] rfl (by (try simp only [List.map_toArray, List.map_cons, List.map_nil]); first | done | rfl | (simp only [List.length_drop, List.length_take]; rfl)) ?_; (with_reducible refine (order_Has.calls t161 a1 t163 _ A12.out).mono ?_); rintro e w' ⟨rfl, ⟨nd, rfl⟩⟩; refine ⟨_, rfl, ?_⟩) | (go_at_call 8; (with_reducible refine (order_Has.calls t162 a1 false _ A14.out).mono ?_); rintro e w' ⟨rfl, ⟨nd, rfl⟩⟩) | (go_at_call 10; (with_reducible refine (order_With.calls t162 a1 t165 _ A16.out).mono ?_); rintro e w' ⟨rfl, ⟨nd, rfl⟩⟩) | (go_at_call 15; (with_reducible refine (order_Without.calls t161 a1 t166 _ A18.out).mono ?_); rintro e w' ⟨rfl, ⟨nd, rfl⟩⟩))
                go_meet
                case rel => exact ⟨_, ((t166 != t162)), (by first | rfl | (simp; done) | (simp [*]; done)), H', ⟨by have := HJ7.out; first | omega | exact Nat.le_refl _⟩, ⟨by repeat (first | (with_reducible first | exact HB.out | apply below_alloc | apply pw_below_drewN | apply below_drew1) | exact HB.out)⟩⟩
              · rw [if_neg c17] at H
                have c17b0 : (t165 == t161) = false := beq_eq_false_iff_ne.mpr c17
                have c17b1 : (t165 != t161) = true := bne_iff_ne.mpr c17
                have H' := Aside0.mk H
                clear H
                go_wp2_with (first | ((with_reducible refine gate_callee (f := 8) rfl ?_); refine goesL_ (some 28) rfl rfl Try.func8 (by kernel_rfl) rfl #[.int .u64 t161, .int .i64 a1] rfl (by (try simp only [List.map_toArray, List.map_cons, List.map_nil]); first | done | rfl | (simp only [List.length_drop, List.length_take]; rfl)) ?_; (with_reducible refine (order_Has.calls t161 a1 t163 _ A12.out).mono ?_); rintro e w' ⟨rfl, ⟨nd, rfl⟩⟩; refine ⟨_, rfl, ?_⟩) | (go_at_call 8; (with_reducible refine (order_Has.calls t162 a1 false _ A14.out).mono ?_); rintro e w' ⟨rfl, ⟨nd, rfl⟩⟩) | (go_at_call 10; (with_reducible refine (order_With.calls t162 a1 t165 _ A16.out).mono ?_); rintro e w' ⟨rfl, ⟨nd, rfl⟩⟩))
                go_meet
                case rel => exact ⟨_, (true), (by first | rfl | (simp; done) | (simp [*]; done)), H', ⟨by have := HJ7.out; first | omega | exact Nat.le_refl _⟩, ⟨by repeat (first | (with_reducible first | exact HB.out | apply below_alloc | apply pw_below_drewN | apply below_drew1) | exact HB.out)⟩⟩
        case rest =>
          clear HC11
          try clear c1
          try clear p2
          try clear c5
          try clear c6
          try clear c7
          try clear c8
          try clear c10
          try clear c10b0
          try clear c13
          try clear c13b0
          try clear c13b1
          try clear c13b2
          try clear c15
          try clear c17
          try clear c17b0
          try clear c17b1
          try clear p2
          obtain ⟨kq, x49_10, rfl, HA, HJ10, HB⟩ := hcut
          cases kq with
          | zero => exact absurd HA.out (by simp [paternosterlaw19_OrderBits.j1])
          | succ kj10 =>
            have H := HA.out
            clear HA
            simp only [paternosterlaw19_OrderBits.j1] at H
            by_cases c19 : x49_10 = true
            · subst c19
              have H1 : (some false) = some r := by rw [if_pos rfl] at H; exact H
              clear H
              have H := H1
              clear H1
              obtain rfl := Option.some.inj H
              go_wp2
              go_ret
              exact ⟨by first | rfl | (simp [errW_none, errW_some] <;> rfl) | (simp [*, errW_none, errW_some] <;> rfl), by repeat (first | (with_reducible first | exact HB.out | apply below_alloc | apply pw_below_drewN | apply below_drew1) | exact HB.out)⟩
            · replace c19 := Bool.eq_false_iff.mpr c19
              subst c19
              have H1 : (if a2 = a1 then (paternosterlaw19_OrderBits.j2 kj10 a0 a1 t161 t162 false) else ((order_Has.f t161 a2).bind fun t167 => ((order_Has.f a0 a2).bind fun t168 => (if (t167 != t168) = true then (paternosterlaw19_OrderBits.j2 kj10 a0 a1 t161 t162 true) else ((order_Has.f t162 a2).bind fun t169 => (paternosterlaw19_OrderBits.j2 kj10 a0 a1 t161 t162 (t169 != t168))))))) = some r := by rw [if_neg (show ¬ (false = true) by decide)] at H; exact H
              clear H
              have H := H1
              clear H1
              have HC20 := Aside0.mk H
              clear H
              go_upto_region 9 with (fail)
              go_cut [70] (fun v70 wc => ∃ (kq : Nat) (x70_19 : Bool), v70 = .bool x70_19 ∧ Aside0 (paternosterlaw19_OrderBits.j2 kq a0 a1 t161 t162 x70_19 = some r) ∧ Aside0 (kq ≤ kj10) ∧ Aside0 (Below w.heap.size w wc))
              case first =>
                have H := HC20.out
                clear HC20
                by_cases c21 : a2 = a1
                · rw [if_pos c21] at H
                  have c21b0 : (a2 == a1) = true := beq_iff_eq.mpr c21
                  have c21b1 : (a2 != a1) = false := bne_eq_false_iff_eq.mpr c21
                  clear c21
                  (first | rw [c21b0] | (simp only [i64_w, i32_w]; rw [c21b0]) | skip)
                  have H' := Aside0.mk H
                  clear H
                  go_wp2
                  go_meet
                  case rel => exact ⟨_, (false), (by first | rfl | (simp; done) | (simp [*]; done)), H', ⟨by have := HJ7.out; have := HJ10.out; first | omega | exact Nat.le_refl _⟩, ⟨by repeat (first | (with_reducible first | exact HB.out | apply below_alloc | apply pw_below_drewN | apply below_drew1) | exact HB.out)⟩⟩
                · rw [if_neg c21] at H
                  have c21b0 : (a2 == a1) = false := beq_eq_false_iff_ne.mpr c21
                  have c21b1 : (a2 != a1) = true := bne_iff_ne.mpr c21
                  (first | rw [c21b0] | (simp only [i64_w, i32_w]; rw [c21b0]) | skip)
                  replace H := Option.bind_eq_some_iff.mp H
                  obtain ⟨t167, A220, H⟩ := H
                  replace H : ((order_Has.f a0 a2).bind fun t168 => (if (t167 != t168) = true then (paternosterlaw19_OrderBits.j2 kj10 a0 a1 t161 t162 true) else ((order_Has.f t162 a2).bind fun t169 => (paternosterlaw19_OrderBits.j2 kj10 a0 a1 t161 t162 (t169 != t168))))) = some r := H
                  have A22 := Aside0.mk A220
                  clear A220
                  replace H := Option.bind_eq_some_iff.mp H
                  obtain ⟨t168, A230, H⟩ := H
                  replace H : (if (t167 != t168) = true then (paternosterlaw19_OrderBits.j2 kj10 a0 a1 t161 t162 true) else ((order_Has.f t162 a2).bind fun t169 => (paternosterlaw19_OrderBits.j2 kj10 a0 a1 t161 t162 (t169 != t168)))) = some r := H
                  have A23 := Aside0.mk A230
                  clear A230
                  by_cases c24 : (t167 != t168) = true
                  · rw [if_pos c24] at H
                    have c24b0 : (t167 != t168) = true := c24
                    (try (have c24b1 : decide (t167 = t168) = false := by simpa using c24))
                    (try (have c24b2 : (t167 == t168) = false := by simpa using c24))
                    (try (have c24b3 : ¬ (t167 = t168) := by simpa using c24))
                    clear c24
                    have H' := Aside0.mk H
                    clear H
                    go_wp2_with (first | (go_at_call 8; (with_reducible refine (order_Has.calls t161 a2 t167 _ A22.out).mono ?_); rintro e w' ⟨rfl, ⟨nd, rfl⟩⟩) | (go_at_call 8; (with_reducible refine (order_Has.calls a0 a2 t168 _ A23.out).mono ?_); rintro e w' ⟨rfl, ⟨nd, rfl⟩⟩))
                    go_meet
                    case rel => exact ⟨_, (true), (by first | rfl | (simp; done) | (simp [*]; done)), H', ⟨by have := HJ7.out; have := HJ10.out; first | omega | exact Nat.le_refl _⟩, ⟨by repeat (first | (with_reducible first | exact HB.out | apply below_alloc | apply pw_below_drewN | apply below_drew1) | exact HB.out)⟩⟩
                  · rw [if_neg c24] at H
                    have c24b0 : (t167 != t168) = false := by simpa using c24
                    (try (have c24b1 : decide (t167 = t168) = true := by simpa using c24))
                    (try (have c24b2 : (t167 == t168) = true := by simpa using c24))
                    clear c24
                    replace H := Option.bind_eq_some_iff.mp H
                    obtain ⟨t169, A250, H⟩ := H
                    replace H : (paternosterlaw19_OrderBits.j2 kj10 a0 a1 t161 t162 (t169 != t168)) = some r := H
                    have A25 := Aside0.mk A250
                    clear A250
                    have H' := Aside0.mk H
                    clear H
                    go_wp2_with (first | (go_at_call 8; (with_reducible refine (order_Has.calls t161 a2 t167 _ A22.out).mono ?_); rintro e w' ⟨rfl, ⟨nd, rfl⟩⟩) | (go_at_call 8; (with_reducible refine (order_Has.calls a0 a2 t168 _ A23.out).mono ?_); rintro e w' ⟨rfl, ⟨nd, rfl⟩⟩) | (go_at_call 8; (with_reducible refine (order_Has.calls t162 a2 t169 _ A25.out).mono ?_); rintro e w' ⟨rfl, ⟨nd, rfl⟩⟩))
                    go_meet
                    case rel => exact ⟨_, ((t169 != t168)), (by first | rfl | (simp; done) | (simp [*]; done)), H', ⟨by have := HJ7.out; have := HJ10.out; first | omega | exact Nat.le_refl _⟩, ⟨by repeat (first | (with_reducible first | exact HB.out | apply below_alloc | apply pw_below_drewN | apply below_drew1) | exact HB.out)⟩⟩
              case rest =>
                clear HC20
                try clear c1
                try clear c2
                try clear p2
                try clear c5
                try clear c6
                try clear c7
                try clear c8
                try clear c10
                try clear c10b0
                try clear c13
                try clear c13b0
                try clear c13b1
                try clear c13b2
                try clear c15
                try clear c17
                try clear c17b0
                try clear c17b1
                try clear c19
                try clear c21
                try clear c21b0
                try clear c21b1
                try clear c24
                try clear c24b0
                try clear c24b1
                try clear c24b2
                try clear p2
                obtain ⟨kq, x70_19, rfl, HA, HJ19, HB⟩ := hcut
                cases kq with
                | zero => exact absurd HA.out (by simp [paternosterlaw19_OrderBits.j2])
                | succ kj19 =>
                  have H := HA.out
                  clear HA
                  simp only [paternosterlaw19_OrderBits.j2] at H
                  by_cases c26 : x70_19 = true
                  · subst c26
                    have H1 : (some false) = some r := by rw [if_pos rfl] at H; exact H
                    clear H
                    have H := H1
                    clear H1
                    obtain rfl := Option.some.inj H
                    go_wp2
                    go_ret
                    exact ⟨by first | rfl | (simp [errW_none, errW_some] <;> rfl) | (simp [*, errW_none, errW_some] <;> rfl), by repeat (first | (with_reducible first | exact HB.out | apply below_alloc | apply pw_below_drewN | apply below_drew1) | exact HB.out)⟩
                  · replace c26 := Bool.eq_false_iff.mpr c26
                    subst c26
                    have H1 : ((order_With.f t161 a1).bind fun t170 => (if t170 = t161 then ((order_Without.f t162 a1).bind fun t171 => (if t171 = t162 then (if t161 = a0 then (some true) else (some (t162 == a0))) else (some false))) else (some false))) = some r := by rw [if_neg (show ¬ (false = true) by decide)] at H; exact H
                    clear H
                    have H := H1
                    clear H1
                    replace H := Option.bind_eq_some_iff.mp H
                    obtain ⟨t170, A270, H⟩ := H
                    replace H : (if t170 = t161 then ((order_Without.f t162 a1).bind fun t171 => (if t171 = t162 then (if t161 = a0 then (some true) else (some (t162 == a0))) else (some false))) else (some false)) = some r := H
                    have A27 := Aside0.mk A270
                    clear A270
                    by_cases c28 : t170 = t161
                    · rw [if_pos c28] at H
                      have c28b0 : (t170 == t161) = true := beq_iff_eq.mpr c28
                      have c28b1 : (t170 != t161) = false := bne_eq_false_iff_eq.mpr c28
                      clear c28
                      replace H := Option.bind_eq_some_iff.mp H
                      obtain ⟨t171, A290, H⟩ := H
                      replace H : (if t171 = t162 then (if t161 = a0 then (some true) else (some (t162 == a0))) else (some false)) = some r := H
                      have A29 := Aside0.mk A290
                      clear A290
                      by_cases c30 : t171 = t162
                      · rw [if_pos c30] at H
                        have c30b0 : (t171 == t162) = true := beq_iff_eq.mpr c30
                        have c30b1 : (t171 != t162) = false := bne_eq_false_iff_eq.mpr c30
                        clear c30
                        by_cases c31 : t161 = a0
                        · rw [if_pos c31] at H
                          have c31b0 : (t161 == a0) = true := beq_iff_eq.mpr c31
                          have c31b1 : (t161 != a0) = false := bne_eq_false_iff_eq.mpr c31
                          clear c31
                          obtain rfl := Option.some.inj H
                          go_wp2_with (first | ((with_reducible refine gate_callee (f := 10) rfl ?_); refine goesL_ (some 73) rfl rfl Try.func10 (by kernel_rfl) rfl #[.int .u64 t161, .int .i64 a1] rfl (by (try simp only [List.map_toArray, List.map_cons, List.map_nil]); first | done | rfl | (simp only [List.length_drop, List.length_take]; rfl)) ?_; (with_reducible refine (order_With.calls t161 a1 t170 _ A27.out).mono ?_); rintro e w' ⟨rfl, ⟨nd, rfl⟩⟩; refine ⟨_, rfl, ?_⟩) | (go_at_call 15; (with_reducible refine (order_Without.calls t162 a1 t171 _ A29.out).mono ?_); rintro e w' ⟨rfl, ⟨nd, rfl⟩⟩))
                          go_ret
                          exact ⟨by first | rfl | (simp [errW_none, errW_some] <;> rfl) | (simp [*, errW_none, errW_some] <;> rfl), by repeat (first | (with_reducible first | exact HB.out | apply below_alloc | apply pw_below_drewN | apply below_drew1) | exact HB.out)⟩
                        · rw [if_neg c31] at H
                          have c31b0 : (t161 == a0) = false := beq_eq_false_iff_ne.mpr c31
                          have c31b1 : (t161 != a0) = true := bne_iff_ne.mpr c31
                          obtain rfl := Option.some.inj H
                          go_wp2_with (first | ((with_reducible refine gate_callee (f := 10) rfl ?_); refine goesL_ (some 73) rfl rfl Try.func10 (by kernel_rfl) rfl #[.int .u64 t161, .int .i64 a1] rfl (by (try simp only [List.map_toArray, List.map_cons, List.map_nil]); first | done | rfl | (simp only [List.length_drop, List.length_take]; rfl)) ?_; (with_reducible refine (order_With.calls t161 a1 t170 _ A27.out).mono ?_); rintro e w' ⟨rfl, ⟨nd, rfl⟩⟩; refine ⟨_, rfl, ?_⟩) | (go_at_call 15; (with_reducible refine (order_Without.calls t162 a1 t171 _ A29.out).mono ?_); rintro e w' ⟨rfl, ⟨nd, rfl⟩⟩))
                          go_ret
                          exact ⟨by first | rfl | (simp [errW_none, errW_some] <;> rfl) | (simp [*, errW_none, errW_some] <;> rfl), by repeat (first | (with_reducible first | exact HB.out | apply below_alloc | apply pw_below_drewN | apply below_drew1) | exact HB.out)⟩
                      · rw [if_neg c30] at H
                        have c30b0 : (t171 == t162) = false := beq_eq_false_iff_ne.mpr c30
                        have c30b1 : (t171 != t162) = true := bne_iff_ne.mpr c30
                        obtain rfl := Option.some.inj H
                        go_wp2_with (first | ((with_reducible refine gate_callee (f := 10) rfl ?_); refine goesL_ (some 73) rfl rfl Try.func10 (by kernel_rfl) rfl #[.int .u64 t161, .int .i64 a1] rfl (by (try simp only [List.map_toArray, List.map_cons, List.map_nil]); first | done | rfl | (simp only [List.length_drop, List.length_take]; rfl)) ?_; (with_reducible refine (order_With.calls t161 a1 t170 _ A27.out).mono ?_); rintro e w' ⟨rfl, ⟨nd, rfl⟩⟩; refine ⟨_, rfl, ?_⟩) | (go_at_call 15; (with_reducible refine (order_Without.calls t162 a1 t171 _ A29.out).mono ?_); rintro e w' ⟨rfl, ⟨nd, rfl⟩⟩))
                        go_ret
                        exact ⟨by first | rfl | (simp [errW_none, errW_some] <;> rfl) | (simp [*, errW_none, errW_some] <;> rfl), by repeat (first | (with_reducible first | exact HB.out | apply below_alloc | apply pw_below_drewN | apply below_drew1) | exact HB.out)⟩
                    · rw [if_neg c28] at H
                      have c28b0 : (t170 == t161) = false := beq_eq_false_iff_ne.mpr c28
                      have c28b1 : (t170 != t161) = true := bne_iff_ne.mpr c28
                      obtain rfl := Option.some.inj H
                      go_wp2_with (first | ((with_reducible refine gate_callee (f := 10) rfl ?_); refine goesL_ (some 73) rfl rfl Try.func10 (by kernel_rfl) rfl #[.int .u64 t161, .int .i64 a1] rfl (by (try simp only [List.map_toArray, List.map_cons, List.map_nil]); first | done | rfl | (simp only [List.length_drop, List.length_take]; rfl)) ?_; (with_reducible refine (order_With.calls t161 a1 t170 _ A27.out).mono ?_); rintro e w' ⟨rfl, ⟨nd, rfl⟩⟩; refine ⟨_, rfl, ?_⟩))
                      go_ret
                      exact ⟨by first | rfl | (simp [errW_none, errW_some] <;> rfl) | (simp [*, errW_none, errW_some] <;> rfl), by repeat (first | (with_reducible first | exact HB.out | apply below_alloc | apply pw_below_drewN | apply below_drew1) | exact HB.out)⟩
  · replace c5 := Bool.eq_false_iff.mpr c5
    subst c5
    have H1 : (some false) = some r := by rw [if_neg (show ¬ (false = true) by decide)] at H; exact H
    clear H
    have H := H1
    clear H1
    obtain rfl := Option.some.inj H
    go_enter Try.func6, Try.ntmps6
    go_wp2_with (first | ((with_reducible refine gate_callee (f := 7) rfl ?_); refine goesL_ (some 11) rfl rfl Try.func7 (by kernel_rfl) rfl #[] rfl (by (try simp only [List.map_toArray, List.map_cons, List.map_nil]); first | done | rfl | (simp only [List.length_drop, List.length_take]; rfl)) ?_; (with_reducible refine (paternosterlaw19_awake.calls  false _ A4.out).mono ?_); rintro e w32 ⟨rfl, hb⟩; refine ⟨_, rfl, ?_⟩; have n0_ := Aside0.mk (below_step (by repeat (first | (with_reducible first | exact HB.out | apply below_alloc | apply pw_below_drewN | apply below_drew1) | exact HB.out)) hb); clear HB; have HB := n0_; clear n0_; (try clear hb); (try clear hb2); (try clear hk); (try clear hi)))
    go_ret
    exact ⟨by first | rfl | (simp [errW_none, errW_some] <;> rfl) | (simp [*, errW_none, errW_some] <;> rfl), by repeat (first | (with_reducible first | exact HB.out | apply below_alloc | apply pw_below_drewN | apply below_drew1) | exact HB.out)⟩

/-- THE ONE PURE STATEMENT of paternosterlaw19_OrderBits: yours. -/
def paternosterlaw19_OrderBits.Pure : Prop := ∀ (a0 : Int) (a1 : Int) (a2 : Int), (Lit.int .u64 a0).wf = true → (Lit.int .i64 a1).wf = true → (Lit.int .i64 a2).wf = true → ∃ k, paternosterlaw19_OrderBits.f k a0 a1 a2 = some true
theorem paternosterlaw19_OrderBits.walk (P : paternosterlaw19_OrderBits.Pure) (a0 : Int) (a1 : Int) (a2 : Int) (w : World) (w0 : (Lit.int .u64 a0).wf = true) (w1 : (Lit.int .i64 a1).wf = true) (w2 : (Lit.int .i64 a2).wf = true) :
    Calls Try.prog 6 #[.int .u64 a0, .int .i64 a1, .int .i64 a2] w fun e w' => e = .returned (.bool true) ∧ Below w.heap.size w w' := by
  obtain ⟨k, h⟩ := P a0 a1 a2 w0 w1 w2
  refine (paternosterlaw19_OrderBits.calls k a0 a1 a2 true w h).mono ?_
  rintro e w' ⟨rfl, hd⟩
  exact ⟨rfl, hd⟩

end Go.Proofs.Ytbaklgemdljmeaa.X
