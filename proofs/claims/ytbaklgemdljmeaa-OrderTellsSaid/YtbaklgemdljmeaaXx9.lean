-- Written by a program of this session (wip/xprint/xprint.py runs the kit's print with hand-proved externs).
import Derived.Test.YtbaklgemdljmeaaXx0
import Derived.Test.YtbaklgemdljmeaaXx1
import Derived.Test.YtbaklgemdljmeaaXx2
import Derived.Test.YtbaklgemdljmeaaXx3
import Derived.Test.YtbaklgemdljmeaaXx6
import Derived.Test.YtbaklgemdljmeaaXx7
import Derived.Test.YtbaklgemdljmeaaXx8
import Derived.Test.YtbaklgemdljmeaaOrderExt
namespace Go.Proofs.Ytbaklgemdljmeaa.X
open Go.RowKit Go.Proofs.YtbaklgemdljmeaaW.PrintWords Go.Proofs.YtbaklgemdljmeaaW.PrintLast Go.Proofs.YtbaklgemdljmeaaW.PrintMore
attribute [local go_sem] max2_int min2_int max_two min_two max_three min_three max_four min_four   -- for this text's walks alone
set_option linter.unusedVariables false
set_option linter.unusedSimpArgs false

/-! ### paternosterlaw19_OrderTells: function 5 -/
def paternosterlaw19_OrderTells.j0 : Nat → List Int → Int → Int → Int → Int → Int → Bool → Int → Int → Option (Bool)
  | 0, _, _, _, _, _, _, _, _, _ => none
  | k + 1, x0, x1, x2, x3, x10, x11, x12, x13, x14 => (order_Next.f x0 x1 x2).bind fun t155 => (if t155 = x10 then ((order_Left.f x0 x1 x2).bind fun t156 => (if t156 = x11 then ((order_Has.f x1 x3).bind fun t157 => (if (t157 == x12) = true then ((order_With.f x1 x3).bind fun t158 => (if t158 = x13 then ((order_Without.f x1 x3).bind fun t159 => (some (t159 == x14))) else (some false))) else (some false))) else (some false))) else (some false))
def paternosterlaw19_OrderTells.f (k : Nat) (l0 : List Int) (a1 : Int) (a2 : Int) (a3 : Int) : Option (Bool) := (paternosterlaw19_awake.f).bind fun t149 => (if t149 = true then (if (l0.length : Int) > 200 then (some true) else ((paternosterref19_Next.f k l0 a1 a2).bind fun bt150 => ((paternosterref19_Has.f k a1 a3).bind fun t152 => (if t152 = true then ((paternosterref19_One.f k a3).bind fun t153 => (paternosterlaw19_OrderTells.j0 k l0 a1 a2 a3 bt150.1 bt150.2 t152 a1 (IntKind.u64.wrap (a1 - t153)))) else ((paternosterref19_One.f k a3).bind fun t154 => (paternosterlaw19_OrderTells.j0 k l0 a1 a2 a3 bt150.1 bt150.2 t152 (IntKind.u64.wrap (a1 + t154)) a1)))))) else (some false))
theorem paternosterlaw19_OrderTells.mono_l : ∀ k, (∀ y0 y1 y2 y3 y4 y5 y6 y7 y8, LeO (paternosterlaw19_OrderTells.j0 k y0 y1 y2 y3 y4 y5 y6 y7 y8) (paternosterlaw19_OrderTells.j0 (k + 1) y0 y1 y2 y3 y4 y5 y6 y7 y8))
  | 0 => fun _ _ _ _ _ _ _ _ _ r h => by simp [paternosterlaw19_OrderTells.j0] at h
  | k + 1 => by
    have ih0 := paternosterlaw19_OrderTells.mono_l k
    · intro y0 y1 y2 y3 y4 y5 y6 y7 y8
      unfold paternosterlaw19_OrderTells.j0
      repeat' first
      | (with_reducible exact ih0 _ _ _ _ _ _ _ _ _)
      | (with_reducible exact paternosterref19_Has.mono _ _ _)
      | (with_reducible exact paternosterref19_Next.mono _ _ _ _)
      | (with_reducible exact paternosterref19_One.mono _ _)
      | (with_reducible exact LeO.refl _)
      | (with_reducible exact LeO.none _)
      | (with_reducible refine LeO.ite ?_ ?_)
      | (with_reducible refine LeO.bind ?_ (fun _ => ?_))
      | exact ih0 _ _ _ _ _ _ _ _ _
      | exact paternosterref19_Has.mono _ _ _
      | exact paternosterref19_Next.mono _ _ _ _
      | exact paternosterref19_One.mono _ _
      | exact LeO.none _
      | refine LeO.ite ?_ ?_
      | refine LeO.bind ?_ (fun _ => ?_)
theorem paternosterlaw19_OrderTells.mono : ∀ a0 a1 a2 a3 k, LeO (paternosterlaw19_OrderTells.f k a0 a1 a2 a3) (paternosterlaw19_OrderTells.f (k + 1) a0 a1 a2 a3) := by
  intro a0 a1 a2 a3 k
  have ih0 := paternosterlaw19_OrderTells.mono_l k
  unfold paternosterlaw19_OrderTells.f
  repeat' first
      | (with_reducible exact ih0 _ _ _ _ _ _ _ _ _)
      | (with_reducible exact paternosterref19_Has.mono _ _ _)
      | (with_reducible exact paternosterref19_Next.mono _ _ _ _)
      | (with_reducible exact paternosterref19_One.mono _ _)
      | (with_reducible exact LeO.refl _)
      | (with_reducible exact LeO.none _)
      | (with_reducible refine LeO.ite ?_ ?_)
      | (with_reducible refine LeO.bind ?_ (fun _ => ?_))
      | exact ih0 _ _ _ _ _ _ _ _ _
      | exact paternosterref19_Has.mono _ _ _
      | exact paternosterref19_Next.mono _ _ _ _
      | exact paternosterref19_One.mono _ _
      | exact LeO.none _
      | refine LeO.ite ?_ ?_
      | refine LeO.bind ?_ (fun _ => ?_)
set_option maxHeartbeats 8000000 in
set_option maxRecDepth 100000 in
theorem paternosterlaw19_OrderTells.calls (k : Nat) (A0 : Option Addr) (c0 : Nat) (l0 : List Int) (a1 : Int) (a2 : Int) (a3 : Int) (r : Bool) (w : World) (hr0 : Kd.C (Kd.int .i64) w A0 l0.length l0) (hc0 : l0.length ≤ c0) (h : paternosterlaw19_OrderTells.f k l0 a1 a2 a3 = some r) :
    Calls Try.prog 5 #[.slice A0 l0.length c0, .int .u64 a1, .int .u64 a2, .int .i64 a3] w fun e w' => e = .returned (.bool r) ∧ Below w.heap.size w w' := by
  have HR0 := Aside0.mk hr0
  have HC0 := Aside0.mk hc0
  clear hr0 hc0
  have HB := Aside0.mk (Below.refl w.heap.size w)
  have H : ((paternosterlaw19_awake.f).bind fun t149 => (if t149 = true then (if (l0.length : Int) > 200 then (some true) else ((paternosterref19_Next.f k l0 a1 a2).bind fun bt150 => ((paternosterref19_Has.f k a1 a3).bind fun t152 => (if t152 = true then ((paternosterref19_One.f k a3).bind fun t153 => (paternosterlaw19_OrderTells.j0 k l0 a1 a2 a3 bt150.1 bt150.2 t152 a1 (IntKind.u64.wrap (a1 - t153)))) else ((paternosterref19_One.f k a3).bind fun t154 => (paternosterlaw19_OrderTells.j0 k l0 a1 a2 a3 bt150.1 bt150.2 t152 (IntKind.u64.wrap (a1 + t154)) a1)))))) else (some false))) = some r := h
  clear h
  replace H := Option.bind_eq_some_iff.mp H
  obtain ⟨t149, A50, H⟩ := H
  replace H : (if t149 = true then (if (l0.length : Int) > 200 then (some true) else ((paternosterref19_Next.f k l0 a1 a2).bind fun bt150 => ((paternosterref19_Has.f k a1 a3).bind fun t152 => (if t152 = true then ((paternosterref19_One.f k a3).bind fun t153 => (paternosterlaw19_OrderTells.j0 k l0 a1 a2 a3 bt150.1 bt150.2 t152 a1 (IntKind.u64.wrap (a1 - t153)))) else ((paternosterref19_One.f k a3).bind fun t154 => (paternosterlaw19_OrderTells.j0 k l0 a1 a2 a3 bt150.1 bt150.2 t152 (IntKind.u64.wrap (a1 + t154)) a1)))))) else (some false)) = some r := H
  have A5 := Aside0.mk A50
  clear A50
  by_cases c6 : t149 = true
  · subst c6
    have H1 : (if (l0.length : Int) > 200 then (some true) else ((paternosterref19_Next.f k l0 a1 a2).bind fun bt150 => ((paternosterref19_Has.f k a1 a3).bind fun t152 => (if t152 = true then ((paternosterref19_One.f k a3).bind fun t153 => (paternosterlaw19_OrderTells.j0 k l0 a1 a2 a3 bt150.1 bt150.2 t152 a1 (IntKind.u64.wrap (a1 - t153)))) else ((paternosterref19_One.f k a3).bind fun t154 => (paternosterlaw19_OrderTells.j0 k l0 a1 a2 a3 bt150.1 bt150.2 t152 (IntKind.u64.wrap (a1 + t154)) a1)))))) = some r := by rw [if_pos rfl] at H; exact H
    clear H
    have H := H1
    clear H1
    by_cases c7 : (l0.length : Int) > 200
    · rw [if_pos c7] at H
      have c7b0 : decide (200 < (l0.length : Int)) = true := decide_eq_true c7
      have c7b1 : decide (200 < l0.length) = true := decide_eq_true (by omega)
      clear c7
      obtain rfl := Option.some.inj H
      go_enter Try.func5, Try.ntmps5
      go_wp2_with (first | ((with_reducible refine gate_callee (f := 7) rfl ?_); refine goesL_ (some 15) rfl rfl Try.func7 (by kernel_rfl) rfl #[] rfl (by (try simp only [List.map_toArray, List.map_cons, List.map_nil]); first | done | rfl | (simp only [List.length_drop, List.length_take]; rfl)) ?_; (with_reducible refine (paternosterlaw19_awake.calls  true _ A5.out).mono ?_); rintro e w8 ⟨rfl, hb⟩; refine ⟨_, rfl, ?_⟩; have n0_ := Aside0.mk (below_step (by repeat (first | (with_reducible first | exact HB.out | apply below_alloc | apply pw_below_drewN | apply below_drew1) | exact HB.out)) hb); clear HB; have HB := n0_; clear n0_; (try clear hb); (try clear hb2); (try clear hk); (try clear hi)))
      go_ret
      exact ⟨by first | rfl | (simp [errW_none, errW_some] <;> rfl) | (simp [*, errW_none, errW_some] <;> rfl), by repeat (first | (with_reducible first | exact HB.out | apply below_alloc | apply pw_below_drewN | apply below_drew1) | exact HB.out)⟩
    · rw [if_neg c7] at H
      have c7b0 : decide (200 < (l0.length : Int)) = false := decide_eq_false c7
      have c7b1 : decide (200 < l0.length) = false := decide_eq_false (by omega)
      clear c7
      replace H := Option.bind_eq_some_iff.mp H
      obtain ⟨⟨t150, t151⟩, A90, H⟩ := H
      replace H : ((paternosterref19_Has.f k a1 a3).bind fun t152 => (if t152 = true then ((paternosterref19_One.f k a3).bind fun t153 => (paternosterlaw19_OrderTells.j0 k l0 a1 a2 a3 t150 t151 t152 a1 (IntKind.u64.wrap (a1 - t153)))) else ((paternosterref19_One.f k a3).bind fun t154 => (paternosterlaw19_OrderTells.j0 k l0 a1 a2 a3 t150 t151 t152 (IntKind.u64.wrap (a1 + t154)) a1)))) = some r := H
      have A9 := Aside0.mk A90
      clear A90
      replace H := Option.bind_eq_some_iff.mp H
      obtain ⟨t152, A100, H⟩ := H
      replace H : (if t152 = true then ((paternosterref19_One.f k a3).bind fun t153 => (paternosterlaw19_OrderTells.j0 k l0 a1 a2 a3 t150 t151 t152 a1 (IntKind.u64.wrap (a1 - t153)))) else ((paternosterref19_One.f k a3).bind fun t154 => (paternosterlaw19_OrderTells.j0 k l0 a1 a2 a3 t150 t151 t152 (IntKind.u64.wrap (a1 + t154)) a1))) = some r := H
      have A10 := Aside0.mk A100
      clear A100
      have HC11 := Aside0.mk H
      clear H
      go_enter Try.func5, Try.ntmps5
      go_upto_if 33 with (first | ((with_reducible refine gate_callee (f := 7) rfl ?_); refine goesL_ (some 15) rfl rfl Try.func7 (by kernel_rfl) rfl #[] rfl (by (try simp only [List.map_toArray, List.map_cons, List.map_nil]); first | done | rfl | (simp only [List.length_drop, List.length_take]; rfl)) ?_; (with_reducible refine (paternosterlaw19_awake.calls  true _ A5.out).mono ?_); rintro e w12 ⟨rfl, hb⟩; refine ⟨_, rfl, ?_⟩; have n0_ := Aside0.mk (below_step (by repeat (first | (with_reducible first | exact HB.out | apply below_alloc | apply pw_below_drewN | apply below_drew1) | exact HB.out)) hb); clear HB; have HB := n0_; clear n0_; (try clear hb); (try clear hb2); (try clear hk); (try clear hi)) | ((with_reducible refine gate_callee (f := 12) rfl ?_); refine goesL_ (some 25) rfl rfl Try.func12 (by kernel_rfl) rfl #[.slice A0 l0.length c0, .int .u64 a1, .int .u64 a2] rfl (by (try simp only [List.map_toArray, List.map_cons, List.map_nil]); first | done | rfl | (simp only [List.length_drop, List.length_take]; rfl)) ?_; (with_reducible refine (paternosterref19_Next.calls k _ _ l0 a1 a2 t150 t151 _ ?side1 ?side2 A9.out).mono ?_); (case side1 => repeat (first | exact (Kd.C_below HR0.out HB.out) | (with_reducible refine Kd.C_alloc ?_ _) | (with_reducible refine Kd.C_drewN ?_ _) | (with_reducible refine Kd.C_drew ?_))); (case side2 => exact HC0.out); rintro e w' ⟨rfl, ⟨nd, rfl⟩⟩; refine ⟨_, rfl, ?_⟩) | ((with_reducible refine gate_callee (f := 13) rfl ?_); refine goesL_ (some 30) rfl rfl Try.func13 (by kernel_rfl) rfl #[.int .u64 a1, .int .i64 a3] rfl (by (try simp only [List.map_toArray, List.map_cons, List.map_nil]); first | done | rfl | (simp only [List.length_drop, List.length_take]; rfl)) ?_; (with_reducible refine (paternosterref19_Has.calls k a1 a3 t152 _ A10.out).mono ?_); rintro e w' ⟨rfl, ⟨nd, rfl⟩⟩; refine ⟨_, rfl, ?_⟩))
      (try simp only [Act.put, List.setIfInBounds_toArray, List.set_cons_zero, List.set_cons_succ])
      go_cut [13, 14] (fun v13 v14 wc => ∃ (kq : Nat) (x13_10 : Int) (x14_10 : Int), v13 = .int .u64 x13_10 ∧ v14 = .int .u64 x14_10 ∧ Aside0 (paternosterlaw19_OrderTells.j0 kq l0 a1 a2 a3 t150 t151 t152 x13_10 x14_10 = some r) ∧ Aside0 (kq ≤ k) ∧ Aside0 (Below w.heap.size w wc))
      case first =>
        have H := HC11.out
        clear HC11
        by_cases c13 : t152 = true
        · subst c13
          have H1 : ((paternosterref19_One.f k a3).bind fun t153 => (paternosterlaw19_OrderTells.j0 k l0 a1 a2 a3 t150 t151 true a1 (IntKind.u64.wrap (a1 - t153)))) = some r := by rw [if_pos rfl] at H; exact H
          clear H
          have H := H1
          clear H1
          replace H := Option.bind_eq_some_iff.mp H
          obtain ⟨t153, A140, H⟩ := H
          replace H : (paternosterlaw19_OrderTells.j0 k l0 a1 a2 a3 t150 t151 true a1 (IntKind.u64.wrap (a1 - t153))) = some r := H
          have A14 := Aside0.mk A140
          clear A140
          have H' := Aside0.mk H
          clear H
          go_wp2_with (first | ((with_reducible refine gate_callee (f := 14) rfl ?_); refine goesL_ (some 36) rfl rfl Try.func14 (by kernel_rfl) rfl #[.int .i64 a3] rfl (by (try simp only [List.map_toArray, List.map_cons, List.map_nil]); first | done | rfl | (simp only [List.length_drop, List.length_take]; rfl)) ?_; (with_reducible refine (paternosterref19_One.calls k a3 t153 _ A14.out).mono ?_); rintro e w' ⟨rfl, ⟨nd, rfl⟩⟩; refine ⟨_, rfl, ?_⟩))
          go_meet
          case rel => exact ⟨_, (a1), (IntKind.u64.wrap (a1 - t153)), (by first | rfl | (simp; done) | (simp [*]; done)), (by first | rfl | (simp; done) | (simp [*]; done)), H', ⟨by first | omega | exact Nat.le_refl _⟩, ⟨by repeat (first | (with_reducible first | exact HB.out | apply below_alloc | apply pw_below_drewN | apply below_drew1) | exact HB.out)⟩⟩
        · replace c13 := Bool.eq_false_iff.mpr c13
          subst c13
          have H1 : ((paternosterref19_One.f k a3).bind fun t154 => (paternosterlaw19_OrderTells.j0 k l0 a1 a2 a3 t150 t151 false (IntKind.u64.wrap (a1 + t154)) a1)) = some r := by rw [if_neg (show ¬ (false = true) by decide)] at H; exact H
          clear H
          have H := H1
          clear H1
          replace H := Option.bind_eq_some_iff.mp H
          obtain ⟨t154, A150, H⟩ := H
          replace H : (paternosterlaw19_OrderTells.j0 k l0 a1 a2 a3 t150 t151 false (IntKind.u64.wrap (a1 + t154)) a1) = some r := H
          have A15 := Aside0.mk A150
          clear A150
          have H' := Aside0.mk H
          clear H
          go_wp2_with (first | ((with_reducible refine gate_callee (f := 14) rfl ?_); refine goesL_ (some 40) rfl rfl Try.func14 (by kernel_rfl) rfl #[.int .i64 a3] rfl (by (try simp only [List.map_toArray, List.map_cons, List.map_nil]); first | done | rfl | (simp only [List.length_drop, List.length_take]; rfl)) ?_; (with_reducible refine (paternosterref19_One.calls k a3 t154 _ A15.out).mono ?_); rintro e w' ⟨rfl, ⟨nd, rfl⟩⟩; refine ⟨_, rfl, ?_⟩))
          go_meet
          case rel => exact ⟨_, (IntKind.u64.wrap (a1 + t154)), (a1), (by first | rfl | (simp; done) | (simp [*]; done)), (by first | rfl | (simp; done) | (simp [*]; done)), H', ⟨by first | omega | exact Nat.le_refl _⟩, ⟨by repeat (first | (with_reducible first | exact HB.out | apply below_alloc | apply pw_below_drewN | apply below_drew1) | exact HB.out)⟩⟩
      case rest =>
        clear HC11
        try clear c1
        try clear p2
        try clear c5
        try clear c6
        try clear c7
        try clear c7b0
        try clear c7b1
        try clear c12
        try clear c13
        try clear c14
        obtain ⟨kq, x13_10, x14_10, rfl, rfl, HA, HJ10, HB⟩ := hcut
        cases kq with
        | zero => exact absurd HA.out (by simp [paternosterlaw19_OrderTells.j0])
        | succ kj10 =>
          have H := HA.out
          clear HA
          simp only [paternosterlaw19_OrderTells.j0] at H
          replace H := Option.bind_eq_some_iff.mp H
          obtain ⟨t155, A160, H⟩ := H
          replace H : (if t155 = t150 then ((order_Left.f l0 a1 a2).bind fun t156 => (if t156 = t151 then ((order_Has.f a1 a3).bind fun t157 => (if (t157 == t152) = true then ((order_With.f a1 a3).bind fun t158 => (if t158 = x13_10 then ((order_Without.f a1 a3).bind fun t159 => (some (t159 == x14_10))) else (some false))) else (some false))) else (some false))) else (some false)) = some r := H
          have A16 := Aside0.mk A160
          clear A160
          by_cases c17 : t155 = t150
          · rw [if_pos c17] at H
            have c17b0 : (t155 == t150) = true := beq_iff_eq.mpr c17
            have c17b1 : (t155 != t150) = false := bne_eq_false_iff_eq.mpr c17
            clear c17
            replace H := Option.bind_eq_some_iff.mp H
            obtain ⟨t156, A180, H⟩ := H
            replace H : (if t156 = t151 then ((order_Has.f a1 a3).bind fun t157 => (if (t157 == t152) = true then ((order_With.f a1 a3).bind fun t158 => (if t158 = x13_10 then ((order_Without.f a1 a3).bind fun t159 => (some (t159 == x14_10))) else (some false))) else (some false))) else (some false)) = some r := H
            have A18 := Aside0.mk A180
            clear A180
            by_cases c19 : t156 = t151
            · rw [if_pos c19] at H
              have c19b0 : (t156 == t151) = true := beq_iff_eq.mpr c19
              have c19b1 : (t156 != t151) = false := bne_eq_false_iff_eq.mpr c19
              clear c19
              replace H := Option.bind_eq_some_iff.mp H
              obtain ⟨t157, A200, H⟩ := H
              replace H : (if (t157 == t152) = true then ((order_With.f a1 a3).bind fun t158 => (if t158 = x13_10 then ((order_Without.f a1 a3).bind fun t159 => (some (t159 == x14_10))) else (some false))) else (some false)) = some r := H
              have A20 := Aside0.mk A200
              clear A200
              by_cases c21 : (t157 == t152) = true
              · rw [if_pos c21] at H
                have c21b0 : (t157 == t152) = true := c21
                (try (have c21b1 : decide (t157 = t152) = true := by simpa using c21))
                (try (have c21b2 : (t157 == t152) = true := by simpa using c21))
                clear c21
                replace H := Option.bind_eq_some_iff.mp H
                obtain ⟨t158, A220, H⟩ := H
                replace H : (if t158 = x13_10 then ((order_Without.f a1 a3).bind fun t159 => (some (t159 == x14_10))) else (some false)) = some r := H
                have A22 := Aside0.mk A220
                clear A220
                by_cases c23 : t158 = x13_10
                · rw [if_pos c23] at H
                  have c23b0 : (t158 == x13_10) = true := beq_iff_eq.mpr c23
                  have c23b1 : (t158 != x13_10) = false := bne_eq_false_iff_eq.mpr c23
                  clear c23
                  replace H := Option.bind_eq_some_iff.mp H
                  obtain ⟨t159, A240, H⟩ := H
                  replace H : (some (t159 == x14_10)) = some r := H
                  have A24 := Aside0.mk A240
                  clear A240
                  obtain rfl := Option.some.inj H
                  go_wp2_with (first | ((with_reducible refine gate_callee (f := 9) rfl ?_); refine goesL_ (some 45) rfl rfl Try.func9 (by kernel_rfl) rfl #[.slice A0 l0.length c0, .int .u64 a1, .int .u64 a2] rfl (by (try simp only [List.map_toArray, List.map_cons, List.map_nil]); first | done | rfl | (simp only [List.length_drop, List.length_take]; rfl)) ?_; (with_reducible refine (order_Next.calls _ _ l0 a1 a2 t155 _ ?side1 ?side2 A16.out).mono ?_); (case side1 => repeat (first | exact (Kd.C_below HR0.out HB.out) | (with_reducible refine Kd.C_alloc ?_ _) | (with_reducible refine Kd.C_drewN ?_ _) | (with_reducible refine Kd.C_drew ?_))); (case side2 => exact HC0.out); rintro e w25 ⟨rfl, hb⟩; refine ⟨_, rfl, ?_⟩; have n0_ := Aside0.mk (below_step (by repeat (first | (with_reducible first | exact HB.out | apply below_alloc | apply pw_below_drewN | apply below_drew1) | exact HB.out)) hb); clear HB; have HB := n0_; clear n0_; (try clear hb); (try clear hb2); (try clear hk); (try clear hi)) | (go_at_call 11; (with_reducible refine (order_Left.calls _ _ l0 a1 a2 t156 _ ?side1 ?side2 A18.out).mono ?_); (case side1 => repeat (first | exact (Kd.C_below HR0.out HB.out) | (with_reducible refine Kd.C_alloc ?_ _) | (with_reducible refine Kd.C_drewN ?_ _) | (with_reducible refine Kd.C_drew ?_))); (case side2 => exact HC0.out); rintro e w26 ⟨rfl, hb⟩; have n0_ := Aside0.mk (below_step (by repeat (first | (with_reducible first | exact HB.out | apply below_alloc | apply pw_below_drewN | apply below_drew1) | exact HB.out)) hb); clear HB; have HB := n0_; clear n0_; (try clear hb); (try clear hb2); (try clear hk); (try clear hi)) | (go_at_call 8; (with_reducible refine (order_Has.calls a1 a3 t157 _ A20.out).mono ?_); rintro e w' ⟨rfl, ⟨nd, rfl⟩⟩) | (go_at_call 10; (with_reducible refine (order_With.calls a1 a3 t158 _ A22.out).mono ?_); rintro e w' ⟨rfl, ⟨nd, rfl⟩⟩) | (go_at_call 15; (with_reducible refine (order_Without.calls a1 a3 t159 _ A24.out).mono ?_); rintro e w' ⟨rfl, ⟨nd, rfl⟩⟩))
                  go_ret
                  exact ⟨by first | rfl | (simp [errW_none, errW_some] <;> rfl) | (simp [*, errW_none, errW_some] <;> rfl), by repeat (first | (with_reducible first | exact HB.out | apply below_alloc | apply pw_below_drewN | apply below_drew1) | exact HB.out)⟩
                · rw [if_neg c23] at H
                  have c23b0 : (t158 == x13_10) = false := beq_eq_false_iff_ne.mpr c23
                  have c23b1 : (t158 != x13_10) = true := bne_iff_ne.mpr c23
                  obtain rfl := Option.some.inj H
                  go_wp2_with (first | ((with_reducible refine gate_callee (f := 9) rfl ?_); refine goesL_ (some 45) rfl rfl Try.func9 (by kernel_rfl) rfl #[.slice A0 l0.length c0, .int .u64 a1, .int .u64 a2] rfl (by (try simp only [List.map_toArray, List.map_cons, List.map_nil]); first | done | rfl | (simp only [List.length_drop, List.length_take]; rfl)) ?_; (with_reducible refine (order_Next.calls _ _ l0 a1 a2 t155 _ ?side1 ?side2 A16.out).mono ?_); (case side1 => repeat (first | exact (Kd.C_below HR0.out HB.out) | (with_reducible refine Kd.C_alloc ?_ _) | (with_reducible refine Kd.C_drewN ?_ _) | (with_reducible refine Kd.C_drew ?_))); (case side2 => exact HC0.out); rintro e w27 ⟨rfl, hb⟩; refine ⟨_, rfl, ?_⟩; have n0_ := Aside0.mk (below_step (by repeat (first | (with_reducible first | exact HB.out | apply below_alloc | apply pw_below_drewN | apply below_drew1) | exact HB.out)) hb); clear HB; have HB := n0_; clear n0_; (try clear hb); (try clear hb2); (try clear hk); (try clear hi)) | (go_at_call 11; (with_reducible refine (order_Left.calls _ _ l0 a1 a2 t156 _ ?side1 ?side2 A18.out).mono ?_); (case side1 => repeat (first | exact (Kd.C_below HR0.out HB.out) | (with_reducible refine Kd.C_alloc ?_ _) | (with_reducible refine Kd.C_drewN ?_ _) | (with_reducible refine Kd.C_drew ?_))); (case side2 => exact HC0.out); rintro e w28 ⟨rfl, hb⟩; have n0_ := Aside0.mk (below_step (by repeat (first | (with_reducible first | exact HB.out | apply below_alloc | apply pw_below_drewN | apply below_drew1) | exact HB.out)) hb); clear HB; have HB := n0_; clear n0_; (try clear hb); (try clear hb2); (try clear hk); (try clear hi)) | (go_at_call 8; (with_reducible refine (order_Has.calls a1 a3 t157 _ A20.out).mono ?_); rintro e w' ⟨rfl, ⟨nd, rfl⟩⟩) | (go_at_call 10; (with_reducible refine (order_With.calls a1 a3 t158 _ A22.out).mono ?_); rintro e w' ⟨rfl, ⟨nd, rfl⟩⟩))
                  go_ret
                  exact ⟨by first | rfl | (simp [errW_none, errW_some] <;> rfl) | (simp [*, errW_none, errW_some] <;> rfl), by repeat (first | (with_reducible first | exact HB.out | apply below_alloc | apply pw_below_drewN | apply below_drew1) | exact HB.out)⟩
              · rw [if_neg c21] at H
                have c21b0 : (t157 == t152) = false := by simpa using c21
                (try (have c21b1 : decide (t157 = t152) = false := by simpa using c21))
                (try (have c21b2 : (t157 == t152) = false := by simpa using c21))
                (try (have c21b3 : ¬ (t157 = t152) := by simpa using c21))
                clear c21
                obtain rfl := Option.some.inj H
                go_wp2_with (first | ((with_reducible refine gate_callee (f := 9) rfl ?_); refine goesL_ (some 45) rfl rfl Try.func9 (by kernel_rfl) rfl #[.slice A0 l0.length c0, .int .u64 a1, .int .u64 a2] rfl (by (try simp only [List.map_toArray, List.map_cons, List.map_nil]); first | done | rfl | (simp only [List.length_drop, List.length_take]; rfl)) ?_; (with_reducible refine (order_Next.calls _ _ l0 a1 a2 t155 _ ?side1 ?side2 A16.out).mono ?_); (case side1 => repeat (first | exact (Kd.C_below HR0.out HB.out) | (with_reducible refine Kd.C_alloc ?_ _) | (with_reducible refine Kd.C_drewN ?_ _) | (with_reducible refine Kd.C_drew ?_))); (case side2 => exact HC0.out); rintro e w29 ⟨rfl, hb⟩; refine ⟨_, rfl, ?_⟩; have n0_ := Aside0.mk (below_step (by repeat (first | (with_reducible first | exact HB.out | apply below_alloc | apply pw_below_drewN | apply below_drew1) | exact HB.out)) hb); clear HB; have HB := n0_; clear n0_; (try clear hb); (try clear hb2); (try clear hk); (try clear hi)) | (go_at_call 11; (with_reducible refine (order_Left.calls _ _ l0 a1 a2 t156 _ ?side1 ?side2 A18.out).mono ?_); (case side1 => repeat (first | exact (Kd.C_below HR0.out HB.out) | (with_reducible refine Kd.C_alloc ?_ _) | (with_reducible refine Kd.C_drewN ?_ _) | (with_reducible refine Kd.C_drew ?_))); (case side2 => exact HC0.out); rintro e w30 ⟨rfl, hb⟩; have n0_ := Aside0.mk (below_step (by repeat (first | (with_reducible first | exact HB.out | apply below_alloc | apply pw_below_drewN | apply below_drew1) | exact HB.out)) hb); clear HB; have HB := n0_; clear n0_; (try clear hb); (try clear hb2); (try clear hk); (try clear hi)) | (go_at_call 8; (with_reducible refine (order_Has.calls a1 a3 t157 _ A20.out).mono ?_); rintro e w' ⟨rfl, ⟨nd, rfl⟩⟩))
                go_ret
                exact ⟨by first | rfl | (simp [errW_none, errW_some] <;> rfl) | (simp [*, errW_none, errW_some] <;> rfl), by repeat (first | (with_reducible first | exact HB.out | apply below_alloc | apply pw_below_drewN | apply below_drew1) | exact HB.out)⟩
            · rw [if_neg c19] at H
              have c19b0 : (t156 == t151) = false := beq_eq_false_iff_ne.mpr c19
              have c19b1 : (t156 != t151) = true := bne_iff_ne.mpr c19
              obtain rfl := Option.some.inj H
              go_wp2_with (first | ((with_reducible refine gate_callee (f := 9) rfl ?_); refine goesL_ (some 45) rfl rfl Try.func9 (by kernel_rfl) rfl #[.slice A0 l0.length c0, .int .u64 a1, .int .u64 a2] rfl (by (try simp only [List.map_toArray, List.map_cons, List.map_nil]); first | done | rfl | (simp only [List.length_drop, List.length_take]; rfl)) ?_; (with_reducible refine (order_Next.calls _ _ l0 a1 a2 t155 _ ?side1 ?side2 A16.out).mono ?_); (case side1 => repeat (first | exact (Kd.C_below HR0.out HB.out) | (with_reducible refine Kd.C_alloc ?_ _) | (with_reducible refine Kd.C_drewN ?_ _) | (with_reducible refine Kd.C_drew ?_))); (case side2 => exact HC0.out); rintro e w31 ⟨rfl, hb⟩; refine ⟨_, rfl, ?_⟩; have n0_ := Aside0.mk (below_step (by repeat (first | (with_reducible first | exact HB.out | apply below_alloc | apply pw_below_drewN | apply below_drew1) | exact HB.out)) hb); clear HB; have HB := n0_; clear n0_; (try clear hb); (try clear hb2); (try clear hk); (try clear hi)) | (go_at_call 11; (with_reducible refine (order_Left.calls _ _ l0 a1 a2 t156 _ ?side1 ?side2 A18.out).mono ?_); (case side1 => repeat (first | exact (Kd.C_below HR0.out HB.out) | (with_reducible refine Kd.C_alloc ?_ _) | (with_reducible refine Kd.C_drewN ?_ _) | (with_reducible refine Kd.C_drew ?_))); (case side2 => exact HC0.out); rintro e w32 ⟨rfl, hb⟩; have n0_ := Aside0.mk (below_step (by repeat (first | (with_reducible first | exact HB.out | apply below_alloc | apply pw_below_drewN | apply below_drew1) | exact HB.out)) hb); clear HB; have HB := n0_; clear n0_; (try clear hb); (try clear hb2); (try clear hk); (try clear hi)))
              go_ret
              exact ⟨by first | rfl | (simp [errW_none, errW_some] <;> rfl) | (simp [*, errW_none, errW_some] <;> rfl), by repeat (first | (with_reducible first | exact HB.out | apply below_alloc | apply pw_below_drewN | apply below_drew1) | exact HB.out)⟩
          · rw [if_neg c17] at H
            have c17b0 : (t155 == t150) = false := beq_eq_false_iff_ne.mpr c17
            have c17b1 : (t155 != t150) = true := bne_iff_ne.mpr c17
            obtain rfl := Option.some.inj H
            go_wp2_with (first | ((with_reducible refine gate_callee (f := 9) rfl ?_); refine goesL_ (some 45) rfl rfl Try.func9 (by kernel_rfl) rfl #[.slice A0 l0.length c0, .int .u64 a1, .int .u64 a2] rfl (by (try simp only [List.map_toArray, List.map_cons, List.map_nil]); first | done | rfl | (simp only [List.length_drop, List.length_take]; rfl)) ?_; (with_reducible refine (order_Next.calls _ _ l0 a1 a2 t155 _ ?side1 ?side2 A16.out).mono ?_); (case side1 => repeat (first | exact (Kd.C_below HR0.out HB.out) | (with_reducible refine Kd.C_alloc ?_ _) | (with_reducible refine Kd.C_drewN ?_ _) | (with_reducible refine Kd.C_drew ?_))); (case side2 => exact HC0.out); rintro e w33 ⟨rfl, hb⟩; refine ⟨_, rfl, ?_⟩; have n0_ := Aside0.mk (below_step (by repeat (first | (with_reducible first | exact HB.out | apply below_alloc | apply pw_below_drewN | apply below_drew1) | exact HB.out)) hb); clear HB; have HB := n0_; clear n0_; (try clear hb); (try clear hb2); (try clear hk); (try clear hi)))
            go_ret
            exact ⟨by first | rfl | (simp [errW_none, errW_some] <;> rfl) | (simp [*, errW_none, errW_some] <;> rfl), by repeat (first | (with_reducible first | exact HB.out | apply below_alloc | apply pw_below_drewN | apply below_drew1) | exact HB.out)⟩
  · replace c6 := Bool.eq_false_iff.mpr c6
    subst c6
    have H1 : (some false) = some r := by rw [if_neg (show ¬ (false = true) by decide)] at H; exact H
    clear H
    have H := H1
    clear H1
    obtain rfl := Option.some.inj H
    go_enter Try.func5, Try.ntmps5
    go_wp2_with (first | ((with_reducible refine gate_callee (f := 7) rfl ?_); refine goesL_ (some 15) rfl rfl Try.func7 (by kernel_rfl) rfl #[] rfl (by (try simp only [List.map_toArray, List.map_cons, List.map_nil]); first | done | rfl | (simp only [List.length_drop, List.length_take]; rfl)) ?_; (with_reducible refine (paternosterlaw19_awake.calls  false _ A5.out).mono ?_); rintro e w34 ⟨rfl, hb⟩; refine ⟨_, rfl, ?_⟩; have n0_ := Aside0.mk (below_step (by repeat (first | (with_reducible first | exact HB.out | apply below_alloc | apply pw_below_drewN | apply below_drew1) | exact HB.out)) hb); clear HB; have HB := n0_; clear n0_; (try clear hb); (try clear hb2); (try clear hk); (try clear hi)))
    go_ret
    exact ⟨by first | rfl | (simp [errW_none, errW_some] <;> rfl) | (simp [*, errW_none, errW_some] <;> rfl), by repeat (first | (with_reducible first | exact HB.out | apply below_alloc | apply pw_below_drewN | apply below_drew1) | exact HB.out)⟩

/-- THE ONE PURE STATEMENT of paternosterlaw19_OrderTells: yours. -/
def paternosterlaw19_OrderTells.Pure : Prop := ∀ (l0 : List Int) (a1 : Int) (a2 : Int) (a3 : Int), l0.length ≤ maxLen → l0.length * 8 ≤ 140737488351232 → (∀ x ∈ l0, (Lit.int .i64 x).wf = true) → (Lit.int .u64 a1).wf = true → (Lit.int .u64 a2).wf = true → (Lit.int .i64 a3).wf = true → ∃ k, paternosterlaw19_OrderTells.f k l0 a1 a2 a3 = some true
theorem paternosterlaw19_OrderTells.walk (P : paternosterlaw19_OrderTells.Pure) (a0 : Option Addr) (len0 cap0 : Nat) (z0 : List Int) (a1 : Int) (a2 : Int) (a3 : Int) (w : World) (w0 : (a0 = none ∧ len0 = 0 ∧ cap0 = 0 ∧ z0 = []) ∨ ∃ x, a0 = some x ∧ len0 ≤ cap0 ∧ cap0 ≤ maxLen ∧ z0.length = cap0 ∧ (∀ i, i < z0.length → w.cell? (x.add i) = some (.int .i64 (z0.getD i 0))) ∧ ∀ n ∈ z0, (Lit.int .i64 n).wf = true) (y0 : len0 * 8 ≤ 140737488351232) (w1 : (Lit.int .u64 a1).wf = true) (w2 : (Lit.int .u64 a2).wf = true) (w3 : (Lit.int .i64 a3).wf = true) :
    Calls Try.prog 5 #[.slice a0 len0 cap0, .int .u64 a1, .int .u64 a2, .int .i64 a3] w fun e w' => e = .returned (.bool true) ∧ Below w.heap.size w w' := by
  obtain ⟨l0, rfl, hr0, hm0, hw0, hc0⟩ := ReadsInt.ofRowC w0
  obtain ⟨k, h⟩ := P l0 a1 a2 a3 hm0 y0 hw0 w1 w2 w3
  refine (paternosterlaw19_OrderTells.calls k _ _ l0 a1 a2 a3 true w (Kd.C_of_reads (d := (0 : Int)) (h1 := fun _ => rfl) hr0) hc0 h).mono ?_
  rintro e w' ⟨rfl, hd⟩
  exact ⟨rfl, hd⟩

end Go.Proofs.Ytbaklgemdljmeaa.X
