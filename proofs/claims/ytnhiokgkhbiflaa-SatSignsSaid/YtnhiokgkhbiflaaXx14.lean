-- Written by a program of this session (wip/xprint/xprint.py runs the kit's print with hand-proved externs).
import Derived.Test.YtnhiokgkhbiflaaXx0
import Derived.Test.YtnhiokgkhbiflaaXx8
import Derived.Test.YtnhiokgkhbiflaaSatExt
namespace Go.Proofs.Ytnhiokgkhbiflaa.X
open Go.RowKit Go.Proofs.YtnhiokgkhbiflaaW.PrintWords Go.Proofs.YtnhiokgkhbiflaaW.PrintLast Go.Proofs.YtnhiokgkhbiflaaW.PrintMore
attribute [local go_sem] max2_int min2_int max_two min_two max_three min_three max_four min_four   -- for this text's walks alone
set_option linter.unusedVariables false
set_option linter.unusedSimpArgs false

/-! ### paternosterlaw03_SatSigns: function 12 -/
def paternosterlaw03_SatSigns.j0 : Nat → Int → Int → Bool → Option (Bool)
  | 0, _, _, _ => none
  | k + 1, x0, x1, x24 => if x24 = true then (some true) else ((sat_Mul.f x0 x1).bind fun bt237 => ((sat_Mul.f (wrap64 (-x0)) x1).bind fun bt239 => ((sat_Mul.f x0 (wrap64 (-x1))).bind fun bt241 => ((sat_Mul.f x0 0).bind fun bt243 => ((sat_Add.f x0 (wrap64 (-x0))).bind fun bt245 => (if bt237.1 = (wrap64 (-bt239.1)) then (if bt237.1 = (wrap64 (-bt241.1)) then (if (bt237.2 == bt239.2) = true then (if (bt237.2 == bt241.2) = true then (if bt243.1 = 0 then (some (bt245.1 == 0)) else (some false)) else (some false)) else (some false)) else (some false)) else (some false)))))))
def paternosterlaw03_SatSigns.f (k : Nat) (a0 : Int) (a1 : Int) : Option (Bool) := (paternosterlaw03_awake.f k).bind fun t236 => (if t236 = true then (if a0 < (-4611686018427387904) then (paternosterlaw03_SatSigns.j0 k a0 a1 true) else (paternosterlaw03_SatSigns.j0 k a0 a1 (decide (a1 < (-4611686018427387904))))) else (some false))
theorem paternosterlaw03_SatSigns.mono_l : ∀ k, (∀ y0 y1 y2, LeO (paternosterlaw03_SatSigns.j0 k y0 y1 y2) (paternosterlaw03_SatSigns.j0 (k + 1) y0 y1 y2))
  | 0 => fun _ _ _ r h => by simp [paternosterlaw03_SatSigns.j0] at h
  | k + 1 => by
    have ih0 := paternosterlaw03_SatSigns.mono_l k
    · intro y0 y1 y2
      unfold paternosterlaw03_SatSigns.j0
      repeat' first
      | (with_reducible exact ih0 _ _ _)
      | (with_reducible exact paternosterlaw03_awake.mono _)
      | (with_reducible exact LeO.refl _)
      | (with_reducible exact LeO.none _)
      | (with_reducible refine LeO.ite ?_ ?_)
      | (with_reducible refine LeO.bind ?_ (fun _ => ?_))
      | exact ih0 _ _ _
      | exact paternosterlaw03_awake.mono _
      | exact LeO.none _
      | refine LeO.ite ?_ ?_
      | refine LeO.bind ?_ (fun _ => ?_)
theorem paternosterlaw03_SatSigns.mono : ∀ a0 a1 k, LeO (paternosterlaw03_SatSigns.f k a0 a1) (paternosterlaw03_SatSigns.f (k + 1) a0 a1) := by
  intro a0 a1 k
  have ih0 := paternosterlaw03_SatSigns.mono_l k
  unfold paternosterlaw03_SatSigns.f
  repeat' first
      | (with_reducible exact ih0 _ _ _)
      | (with_reducible exact paternosterlaw03_awake.mono _)
      | (with_reducible exact LeO.refl _)
      | (with_reducible exact LeO.none _)
      | (with_reducible refine LeO.ite ?_ ?_)
      | (with_reducible refine LeO.bind ?_ (fun _ => ?_))
      | exact ih0 _ _ _
      | exact paternosterlaw03_awake.mono _
      | exact LeO.none _
      | refine LeO.ite ?_ ?_
      | refine LeO.bind ?_ (fun _ => ?_)
set_option maxHeartbeats 8000000 in
set_option maxRecDepth 100000 in
theorem paternosterlaw03_SatSigns.calls (k : Nat) (a0 : Int) (a1 : Int) (r : Bool) (w : World) (h : paternosterlaw03_SatSigns.f k a0 a1 = some r) :
    Calls Try.prog 12 #[.int .i64 a0, .int .i64 a1] w fun e w' => e = .returned (.bool r) ∧ Below w.heap.size w w' := by
  have HB := Aside0.mk (Below.refl w.heap.size w)
  have H : ((paternosterlaw03_awake.f k).bind fun t236 => (if t236 = true then (if a0 < (-4611686018427387904) then (paternosterlaw03_SatSigns.j0 k a0 a1 true) else (paternosterlaw03_SatSigns.j0 k a0 a1 (decide (a1 < (-4611686018427387904))))) else (some false))) = some r := h
  clear h
  replace H := Option.bind_eq_some_iff.mp H
  obtain ⟨t236, A30, H⟩ := H
  replace H : (if t236 = true then (if a0 < (-4611686018427387904) then (paternosterlaw03_SatSigns.j0 k a0 a1 true) else (paternosterlaw03_SatSigns.j0 k a0 a1 (decide (a1 < (-4611686018427387904))))) else (some false)) = some r := H
  have A3 := Aside0.mk A30
  clear A30
  by_cases c4 : t236 = true
  · subst c4
    have H1 : (if a0 < (-4611686018427387904) then (paternosterlaw03_SatSigns.j0 k a0 a1 true) else (paternosterlaw03_SatSigns.j0 k a0 a1 (decide (a1 < (-4611686018427387904))))) = some r := by rw [if_pos rfl] at H; exact H
    clear H
    have H := H1
    clear H1
    have HC5 := Aside0.mk H
    clear H
    go_enter Try.func12, Try.ntmps12
    go_upto_region 4 with (first | ((with_reducible refine gate_callee (f := 22) rfl ?_); refine goesL_ (some 16) rfl rfl Try.func22 (by kernel_rfl) rfl #[] rfl (by (try simp only [List.map_toArray, List.map_cons, List.map_nil]); first | done | rfl | (simp only [List.length_drop, List.length_take]; rfl)) ?_; (with_reducible refine (paternosterlaw03_awake.calls k  true _ A3.out).mono ?_); rintro e w6 ⟨rfl, hb⟩; refine ⟨_, rfl, ?_⟩; have n0_ := Aside0.mk (below_step (by repeat (first | (with_reducible first | exact HB.out | apply below_alloc | apply pw_below_drewN | apply below_drew1) | exact HB.out)) hb); clear HB; have HB := n0_; clear n0_; (try clear hb); (try clear hb2); (try clear hk); (try clear hi)))
    (try simp only [Act.put, List.setIfInBounds_toArray, List.set_cons_zero, List.set_cons_succ])
    go_cut [24] (fun v24 wc => ∃ (kq : Nat) (x24_4 : Bool), v24 = .bool x24_4 ∧ Aside0 (paternosterlaw03_SatSigns.j0 kq a0 a1 x24_4 = some r) ∧ Aside0 (kq ≤ k) ∧ Aside0 (Below w.heap.size w wc))
    case first =>
      have H := HC5.out
      clear HC5
      by_cases c7 : a0 < (-4611686018427387904)
      · rw [if_pos c7] at H
        have c7b0 : decide (a0 < (-4611686018427387904)) = true := decide_eq_true c7
        clear c7
        (first | rw [c7b0] | (simp only [i64_w, i32_w]; rw [c7b0]) | skip)
        have H' := Aside0.mk H
        clear H
        go_wp2
        go_meet
        case rel => exact ⟨_, (true), (by first | rfl | (simp; done) | (simp [*]; done)), H', ⟨by first | omega | exact Nat.le_refl _⟩, ⟨by repeat (first | (with_reducible first | exact HB.out | apply below_alloc | apply pw_below_drewN | apply below_drew1) | exact HB.out)⟩⟩
      · rw [if_neg c7] at H
        have c7b0 : decide (a0 < (-4611686018427387904)) = false := decide_eq_false c7
        clear c7
        (first | rw [c7b0] | (simp only [i64_w, i32_w]; rw [c7b0]) | skip)
        have H' := Aside0.mk H
        clear H
        go_wp2
        go_meet
        case rel => exact ⟨_, (decide (a1 < (-4611686018427387904))), (by first | rfl | (simp; done) | (simp [*]; done)), H', ⟨by first | omega | exact Nat.le_refl _⟩, ⟨by repeat (first | (with_reducible first | exact HB.out | apply below_alloc | apply pw_below_drewN | apply below_drew1) | exact HB.out)⟩⟩
    case rest =>
      clear HC5
      try clear c1
      try clear c2
      try clear p2
      try clear c4
      try clear c7
      try clear c7b0
      obtain ⟨kq, x24_4, rfl, HA, HJ4, HB⟩ := hcut
      cases kq with
      | zero => exact absurd HA.out (by simp [paternosterlaw03_SatSigns.j0])
      | succ kj4 =>
        have H := HA.out
        clear HA
        simp only [paternosterlaw03_SatSigns.j0] at H
        by_cases c8 : x24_4 = true
        · subst c8
          have H1 : (some true) = some r := by rw [if_pos rfl] at H; exact H
          clear H
          have H := H1
          clear H1
          obtain rfl := Option.some.inj H
          go_wp2
          go_ret
          exact ⟨by first | rfl | (simp [errW_none, errW_some] <;> rfl) | (simp [*, errW_none, errW_some] <;> rfl), by repeat (first | (with_reducible first | exact HB.out | apply below_alloc | apply pw_below_drewN | apply below_drew1) | exact HB.out)⟩
        · replace c8 := Bool.eq_false_iff.mpr c8
          subst c8
          have H1 : ((sat_Mul.f a0 a1).bind fun bt237 => ((sat_Mul.f (wrap64 (-a0)) a1).bind fun bt239 => ((sat_Mul.f a0 (wrap64 (-a1))).bind fun bt241 => ((sat_Mul.f a0 0).bind fun bt243 => ((sat_Add.f a0 (wrap64 (-a0))).bind fun bt245 => (if bt237.1 = (wrap64 (-bt239.1)) then (if bt237.1 = (wrap64 (-bt241.1)) then (if (bt237.2 == bt239.2) = true then (if (bt237.2 == bt241.2) = true then (if bt243.1 = 0 then (some (bt245.1 == 0)) else (some false)) else (some false)) else (some false)) else (some false)) else (some false))))))) = some r := by rw [if_neg (show ¬ (false = true) by decide)] at H; exact H
          clear H
          have H := H1
          clear H1
          replace H := Option.bind_eq_some_iff.mp H
          obtain ⟨⟨t237, t238⟩, A90, H⟩ := H
          replace H : ((sat_Mul.f (wrap64 (-a0)) a1).bind fun bt239 => ((sat_Mul.f a0 (wrap64 (-a1))).bind fun bt241 => ((sat_Mul.f a0 0).bind fun bt243 => ((sat_Add.f a0 (wrap64 (-a0))).bind fun bt245 => (if t237 = (wrap64 (-bt239.1)) then (if t237 = (wrap64 (-bt241.1)) then (if (t238 == bt239.2) = true then (if (t238 == bt241.2) = true then (if bt243.1 = 0 then (some (bt245.1 == 0)) else (some false)) else (some false)) else (some false)) else (some false)) else (some false)))))) = some r := H
          have A9 := Aside0.mk A90
          clear A90
          replace H := Option.bind_eq_some_iff.mp H
          obtain ⟨⟨t239, t240⟩, A100, H⟩ := H
          replace H : ((sat_Mul.f a0 (wrap64 (-a1))).bind fun bt241 => ((sat_Mul.f a0 0).bind fun bt243 => ((sat_Add.f a0 (wrap64 (-a0))).bind fun bt245 => (if t237 = (wrap64 (-t239)) then (if t237 = (wrap64 (-bt241.1)) then (if (t238 == t240) = true then (if (t238 == bt241.2) = true then (if bt243.1 = 0 then (some (bt245.1 == 0)) else (some false)) else (some false)) else (some false)) else (some false)) else (some false))))) = some r := H
          have A10 := Aside0.mk A100
          clear A100
          replace H := Option.bind_eq_some_iff.mp H
          obtain ⟨⟨t241, t242⟩, A110, H⟩ := H
          replace H : ((sat_Mul.f a0 0).bind fun bt243 => ((sat_Add.f a0 (wrap64 (-a0))).bind fun bt245 => (if t237 = (wrap64 (-t239)) then (if t237 = (wrap64 (-t241)) then (if (t238 == t240) = true then (if (t238 == t242) = true then (if bt243.1 = 0 then (some (bt245.1 == 0)) else (some false)) else (some false)) else (some false)) else (some false)) else (some false)))) = some r := H
          have A11 := Aside0.mk A110
          clear A110
          replace H := Option.bind_eq_some_iff.mp H
          obtain ⟨⟨t243, t244⟩, A120, H⟩ := H
          replace H : ((sat_Add.f a0 (wrap64 (-a0))).bind fun bt245 => (if t237 = (wrap64 (-t239)) then (if t237 = (wrap64 (-t241)) then (if (t238 == t240) = true then (if (t238 == t242) = true then (if t243 = 0 then (some (bt245.1 == 0)) else (some false)) else (some false)) else (some false)) else (some false)) else (some false))) = some r := H
          have A12 := Aside0.mk A120
          clear A120
          replace H := Option.bind_eq_some_iff.mp H
          obtain ⟨⟨t245, t246⟩, A130, H⟩ := H
          replace H : (if t237 = (wrap64 (-t239)) then (if t237 = (wrap64 (-t241)) then (if (t238 == t240) = true then (if (t238 == t242) = true then (if t243 = 0 then (some (t245 == 0)) else (some false)) else (some false)) else (some false)) else (some false)) else (some false)) = some r := H
          have A13 := Aside0.mk A130
          clear A130
          by_cases c14 : t237 = (wrap64 (-t239))
          · rw [if_pos c14] at H
            have c14b0 : (t237 == (wrap64 (-t239))) = true := beq_iff_eq.mpr c14
            have c14b1 : (t237 != (wrap64 (-t239))) = false := bne_eq_false_iff_eq.mpr c14
            clear c14
            by_cases c15 : t237 = (wrap64 (-t241))
            · rw [if_pos c15] at H
              have c15b0 : (t237 == (wrap64 (-t241))) = true := beq_iff_eq.mpr c15
              have c15b1 : (t237 != (wrap64 (-t241))) = false := bne_eq_false_iff_eq.mpr c15
              clear c15
              by_cases c16 : (t238 == t240) = true
              · rw [if_pos c16] at H
                have c16b0 : (t238 == t240) = true := c16
                (try (have c16b1 : decide (t238 = t240) = true := by simpa using c16))
                (try (have c16b2 : (t238 == t240) = true := by simpa using c16))
                clear c16
                by_cases c17 : (t238 == t242) = true
                · rw [if_pos c17] at H
                  have c17b0 : (t238 == t242) = true := c17
                  (try (have c17b1 : decide (t238 = t242) = true := by simpa using c17))
                  (try (have c17b2 : (t238 == t242) = true := by simpa using c17))
                  clear c17
                  by_cases c18 : t243 = 0
                  · rw [if_pos c18] at H
                    have c18b0 : (t243 == 0) = true := beq_iff_eq.mpr c18
                    have c18b1 : (t243 != 0) = false := bne_eq_false_iff_eq.mpr c18
                    clear c18
                    obtain rfl := Option.some.inj H
                    go_wp2_with (first | ((with_reducible refine gate_callee (f := 25) rfl ?_); refine goesL_ (some 28) rfl rfl Try.func25 (by kernel_rfl) rfl #[.int .i64 a0, .int .i64 a1] rfl (by (try simp only [List.map_toArray, List.map_cons, List.map_nil]); first | done | rfl | (simp only [List.length_drop, List.length_take]; rfl)) ?_; (with_reducible refine (sat_Mul.calls a0 a1 t237 t238 _ A9.out).mono ?_); rintro e w' ⟨rfl, ⟨nd, rfl⟩⟩; refine ⟨_, rfl, ?_⟩) | ((with_reducible refine gate_callee (f := 25) rfl ?_); refine goesL_ (some 35) rfl rfl Try.func25 (by kernel_rfl) rfl #[.int .i64 (wrap64 (-a0)), .int .i64 a1] rfl (by (try simp only [List.map_toArray, List.map_cons, List.map_nil]); first | done | rfl | (simp only [List.length_drop, List.length_take]; rfl)) ?_; (with_reducible refine (sat_Mul.calls (wrap64 (-a0)) a1 t239 t240 _ A10.out).mono ?_); rintro e w' ⟨rfl, ⟨nd, rfl⟩⟩; refine ⟨_, rfl, ?_⟩) | ((with_reducible refine gate_callee (f := 25) rfl ?_); refine goesL_ (some 42) rfl rfl Try.func25 (by kernel_rfl) rfl #[.int .i64 a0, .int .i64 (wrap64 (-a1))] rfl (by (try simp only [List.map_toArray, List.map_cons, List.map_nil]); first | done | rfl | (simp only [List.length_drop, List.length_take]; rfl)) ?_; (with_reducible refine (sat_Mul.calls a0 (wrap64 (-a1)) t241 t242 _ A11.out).mono ?_); rintro e w' ⟨rfl, ⟨nd, rfl⟩⟩; refine ⟨_, rfl, ?_⟩) | ((with_reducible refine gate_callee (f := 25) rfl ?_); refine goesL_ (some 47) rfl rfl Try.func25 (by kernel_rfl) rfl #[.int .i64 a0, .int .i64 0] rfl (by (try simp only [List.map_toArray, List.map_cons, List.map_nil]); first | done | rfl | (simp only [List.length_drop, List.length_take]; rfl)) ?_; (with_reducible refine (sat_Mul.calls a0 0 t243 t244 _ A12.out).mono ?_); rintro e w' ⟨rfl, ⟨nd, rfl⟩⟩; refine ⟨_, rfl, ?_⟩) | ((with_reducible refine gate_callee (f := 23) rfl ?_); refine goesL_ (some 54) rfl rfl Try.func23 (by kernel_rfl) rfl #[.int .i64 a0, .int .i64 (wrap64 (-a0))] rfl (by (try simp only [List.map_toArray, List.map_cons, List.map_nil]); first | done | rfl | (simp only [List.length_drop, List.length_take]; rfl)) ?_; (with_reducible refine (sat_Add.calls a0 (wrap64 (-a0)) t245 t246 _ A13.out).mono ?_); rintro e w' ⟨rfl, ⟨nd, rfl⟩⟩; refine ⟨_, rfl, ?_⟩))
                    go_ret
                    exact ⟨by first | rfl | (simp [errW_none, errW_some] <;> rfl) | (simp [*, errW_none, errW_some] <;> rfl), by repeat (first | (with_reducible first | exact HB.out | apply below_alloc | apply pw_below_drewN | apply below_drew1) | exact HB.out)⟩
                  · rw [if_neg c18] at H
                    have c18b0 : (t243 == 0) = false := beq_eq_false_iff_ne.mpr c18
                    have c18b1 : (t243 != 0) = true := bne_iff_ne.mpr c18
                    obtain rfl := Option.some.inj H
                    go_wp2_with (first | ((with_reducible refine gate_callee (f := 25) rfl ?_); refine goesL_ (some 28) rfl rfl Try.func25 (by kernel_rfl) rfl #[.int .i64 a0, .int .i64 a1] rfl (by (try simp only [List.map_toArray, List.map_cons, List.map_nil]); first | done | rfl | (simp only [List.length_drop, List.length_take]; rfl)) ?_; (with_reducible refine (sat_Mul.calls a0 a1 t237 t238 _ A9.out).mono ?_); rintro e w' ⟨rfl, ⟨nd, rfl⟩⟩; refine ⟨_, rfl, ?_⟩) | ((with_reducible refine gate_callee (f := 25) rfl ?_); refine goesL_ (some 35) rfl rfl Try.func25 (by kernel_rfl) rfl #[.int .i64 (wrap64 (-a0)), .int .i64 a1] rfl (by (try simp only [List.map_toArray, List.map_cons, List.map_nil]); first | done | rfl | (simp only [List.length_drop, List.length_take]; rfl)) ?_; (with_reducible refine (sat_Mul.calls (wrap64 (-a0)) a1 t239 t240 _ A10.out).mono ?_); rintro e w' ⟨rfl, ⟨nd, rfl⟩⟩; refine ⟨_, rfl, ?_⟩) | ((with_reducible refine gate_callee (f := 25) rfl ?_); refine goesL_ (some 42) rfl rfl Try.func25 (by kernel_rfl) rfl #[.int .i64 a0, .int .i64 (wrap64 (-a1))] rfl (by (try simp only [List.map_toArray, List.map_cons, List.map_nil]); first | done | rfl | (simp only [List.length_drop, List.length_take]; rfl)) ?_; (with_reducible refine (sat_Mul.calls a0 (wrap64 (-a1)) t241 t242 _ A11.out).mono ?_); rintro e w' ⟨rfl, ⟨nd, rfl⟩⟩; refine ⟨_, rfl, ?_⟩) | ((with_reducible refine gate_callee (f := 25) rfl ?_); refine goesL_ (some 47) rfl rfl Try.func25 (by kernel_rfl) rfl #[.int .i64 a0, .int .i64 0] rfl (by (try simp only [List.map_toArray, List.map_cons, List.map_nil]); first | done | rfl | (simp only [List.length_drop, List.length_take]; rfl)) ?_; (with_reducible refine (sat_Mul.calls a0 0 t243 t244 _ A12.out).mono ?_); rintro e w' ⟨rfl, ⟨nd, rfl⟩⟩; refine ⟨_, rfl, ?_⟩) | ((with_reducible refine gate_callee (f := 23) rfl ?_); refine goesL_ (some 54) rfl rfl Try.func23 (by kernel_rfl) rfl #[.int .i64 a0, .int .i64 (wrap64 (-a0))] rfl (by (try simp only [List.map_toArray, List.map_cons, List.map_nil]); first | done | rfl | (simp only [List.length_drop, List.length_take]; rfl)) ?_; (with_reducible refine (sat_Add.calls a0 (wrap64 (-a0)) t245 t246 _ A13.out).mono ?_); rintro e w' ⟨rfl, ⟨nd, rfl⟩⟩; refine ⟨_, rfl, ?_⟩))
                    go_ret
                    exact ⟨by first | rfl | (simp [errW_none, errW_some] <;> rfl) | (simp [*, errW_none, errW_some] <;> rfl), by repeat (first | (with_reducible first | exact HB.out | apply below_alloc | apply pw_below_drewN | apply below_drew1) | exact HB.out)⟩
                · rw [if_neg c17] at H
                  have c17b0 : (t238 == t242) = false := by simpa using c17
                  (try (have c17b1 : decide (t238 = t242) = false := by simpa using c17))
                  (try (have c17b2 : (t238 == t242) = false := by simpa using c17))
                  (try (have c17b3 : ¬ (t238 = t242) := by simpa using c17))
                  clear c17
                  obtain rfl := Option.some.inj H
                  go_wp2_with (first | ((with_reducible refine gate_callee (f := 25) rfl ?_); refine goesL_ (some 28) rfl rfl Try.func25 (by kernel_rfl) rfl #[.int .i64 a0, .int .i64 a1] rfl (by (try simp only [List.map_toArray, List.map_cons, List.map_nil]); first | done | rfl | (simp only [List.length_drop, List.length_take]; rfl)) ?_; (with_reducible refine (sat_Mul.calls a0 a1 t237 t238 _ A9.out).mono ?_); rintro e w' ⟨rfl, ⟨nd, rfl⟩⟩; refine ⟨_, rfl, ?_⟩) | ((with_reducible refine gate_callee (f := 25) rfl ?_); refine goesL_ (some 35) rfl rfl Try.func25 (by kernel_rfl) rfl #[.int .i64 (wrap64 (-a0)), .int .i64 a1] rfl (by (try simp only [List.map_toArray, List.map_cons, List.map_nil]); first | done | rfl | (simp only [List.length_drop, List.length_take]; rfl)) ?_; (with_reducible refine (sat_Mul.calls (wrap64 (-a0)) a1 t239 t240 _ A10.out).mono ?_); rintro e w' ⟨rfl, ⟨nd, rfl⟩⟩; refine ⟨_, rfl, ?_⟩) | ((with_reducible refine gate_callee (f := 25) rfl ?_); refine goesL_ (some 42) rfl rfl Try.func25 (by kernel_rfl) rfl #[.int .i64 a0, .int .i64 (wrap64 (-a1))] rfl (by (try simp only [List.map_toArray, List.map_cons, List.map_nil]); first | done | rfl | (simp only [List.length_drop, List.length_take]; rfl)) ?_; (with_reducible refine (sat_Mul.calls a0 (wrap64 (-a1)) t241 t242 _ A11.out).mono ?_); rintro e w' ⟨rfl, ⟨nd, rfl⟩⟩; refine ⟨_, rfl, ?_⟩) | ((with_reducible refine gate_callee (f := 25) rfl ?_); refine goesL_ (some 47) rfl rfl Try.func25 (by kernel_rfl) rfl #[.int .i64 a0, .int .i64 0] rfl (by (try simp only [List.map_toArray, List.map_cons, List.map_nil]); first | done | rfl | (simp only [List.length_drop, List.length_take]; rfl)) ?_; (with_reducible refine (sat_Mul.calls a0 0 t243 t244 _ A12.out).mono ?_); rintro e w' ⟨rfl, ⟨nd, rfl⟩⟩; refine ⟨_, rfl, ?_⟩) | ((with_reducible refine gate_callee (f := 23) rfl ?_); refine goesL_ (some 54) rfl rfl Try.func23 (by kernel_rfl) rfl #[.int .i64 a0, .int .i64 (wrap64 (-a0))] rfl (by (try simp only [List.map_toArray, List.map_cons, List.map_nil]); first | done | rfl | (simp only [List.length_drop, List.length_take]; rfl)) ?_; (with_reducible refine (sat_Add.calls a0 (wrap64 (-a0)) t245 t246 _ A13.out).mono ?_); rintro e w' ⟨rfl, ⟨nd, rfl⟩⟩; refine ⟨_, rfl, ?_⟩))
                  go_ret
                  exact ⟨by first | rfl | (simp [errW_none, errW_some] <;> rfl) | (simp [*, errW_none, errW_some] <;> rfl), by repeat (first | (with_reducible first | exact HB.out | apply below_alloc | apply pw_below_drewN | apply below_drew1) | exact HB.out)⟩
              · rw [if_neg c16] at H
                have c16b0 : (t238 == t240) = false := by simpa using c16
                (try (have c16b1 : decide (t238 = t240) = false := by simpa using c16))
                (try (have c16b2 : (t238 == t240) = false := by simpa using c16))
                (try (have c16b3 : ¬ (t238 = t240) := by simpa using c16))
                clear c16
                obtain rfl := Option.some.inj H
                go_wp2_with (first | ((with_reducible refine gate_callee (f := 25) rfl ?_); refine goesL_ (some 28) rfl rfl Try.func25 (by kernel_rfl) rfl #[.int .i64 a0, .int .i64 a1] rfl (by (try simp only [List.map_toArray, List.map_cons, List.map_nil]); first | done | rfl | (simp only [List.length_drop, List.length_take]; rfl)) ?_; (with_reducible refine (sat_Mul.calls a0 a1 t237 t238 _ A9.out).mono ?_); rintro e w' ⟨rfl, ⟨nd, rfl⟩⟩; refine ⟨_, rfl, ?_⟩) | ((with_reducible refine gate_callee (f := 25) rfl ?_); refine goesL_ (some 35) rfl rfl Try.func25 (by kernel_rfl) rfl #[.int .i64 (wrap64 (-a0)), .int .i64 a1] rfl (by (try simp only [List.map_toArray, List.map_cons, List.map_nil]); first | done | rfl | (simp only [List.length_drop, List.length_take]; rfl)) ?_; (with_reducible refine (sat_Mul.calls (wrap64 (-a0)) a1 t239 t240 _ A10.out).mono ?_); rintro e w' ⟨rfl, ⟨nd, rfl⟩⟩; refine ⟨_, rfl, ?_⟩) | ((with_reducible refine gate_callee (f := 25) rfl ?_); refine goesL_ (some 42) rfl rfl Try.func25 (by kernel_rfl) rfl #[.int .i64 a0, .int .i64 (wrap64 (-a1))] rfl (by (try simp only [List.map_toArray, List.map_cons, List.map_nil]); first | done | rfl | (simp only [List.length_drop, List.length_take]; rfl)) ?_; (with_reducible refine (sat_Mul.calls a0 (wrap64 (-a1)) t241 t242 _ A11.out).mono ?_); rintro e w' ⟨rfl, ⟨nd, rfl⟩⟩; refine ⟨_, rfl, ?_⟩) | ((with_reducible refine gate_callee (f := 25) rfl ?_); refine goesL_ (some 47) rfl rfl Try.func25 (by kernel_rfl) rfl #[.int .i64 a0, .int .i64 0] rfl (by (try simp only [List.map_toArray, List.map_cons, List.map_nil]); first | done | rfl | (simp only [List.length_drop, List.length_take]; rfl)) ?_; (with_reducible refine (sat_Mul.calls a0 0 t243 t244 _ A12.out).mono ?_); rintro e w' ⟨rfl, ⟨nd, rfl⟩⟩; refine ⟨_, rfl, ?_⟩) | ((with_reducible refine gate_callee (f := 23) rfl ?_); refine goesL_ (some 54) rfl rfl Try.func23 (by kernel_rfl) rfl #[.int .i64 a0, .int .i64 (wrap64 (-a0))] rfl (by (try simp only [List.map_toArray, List.map_cons, List.map_nil]); first | done | rfl | (simp only [List.length_drop, List.length_take]; rfl)) ?_; (with_reducible refine (sat_Add.calls a0 (wrap64 (-a0)) t245 t246 _ A13.out).mono ?_); rintro e w' ⟨rfl, ⟨nd, rfl⟩⟩; refine ⟨_, rfl, ?_⟩))
                go_ret
                exact ⟨by first | rfl | (simp [errW_none, errW_some] <;> rfl) | (simp [*, errW_none, errW_some] <;> rfl), by repeat (first | (with_reducible first | exact HB.out | apply below_alloc | apply pw_below_drewN | apply below_drew1) | exact HB.out)⟩
            · rw [if_neg c15] at H
              have c15b0 : (t237 == (wrap64 (-t241))) = false := beq_eq_false_iff_ne.mpr c15
              have c15b1 : (t237 != (wrap64 (-t241))) = true := bne_iff_ne.mpr c15
              obtain rfl := Option.some.inj H
              go_wp2_with (first | ((with_reducible refine gate_callee (f := 25) rfl ?_); refine goesL_ (some 28) rfl rfl Try.func25 (by kernel_rfl) rfl #[.int .i64 a0, .int .i64 a1] rfl (by (try simp only [List.map_toArray, List.map_cons, List.map_nil]); first | done | rfl | (simp only [List.length_drop, List.length_take]; rfl)) ?_; (with_reducible refine (sat_Mul.calls a0 a1 t237 t238 _ A9.out).mono ?_); rintro e w' ⟨rfl, ⟨nd, rfl⟩⟩; refine ⟨_, rfl, ?_⟩) | ((with_reducible refine gate_callee (f := 25) rfl ?_); refine goesL_ (some 35) rfl rfl Try.func25 (by kernel_rfl) rfl #[.int .i64 (wrap64 (-a0)), .int .i64 a1] rfl (by (try simp only [List.map_toArray, List.map_cons, List.map_nil]); first | done | rfl | (simp only [List.length_drop, List.length_take]; rfl)) ?_; (with_reducible refine (sat_Mul.calls (wrap64 (-a0)) a1 t239 t240 _ A10.out).mono ?_); rintro e w' ⟨rfl, ⟨nd, rfl⟩⟩; refine ⟨_, rfl, ?_⟩) | ((with_reducible refine gate_callee (f := 25) rfl ?_); refine goesL_ (some 42) rfl rfl Try.func25 (by kernel_rfl) rfl #[.int .i64 a0, .int .i64 (wrap64 (-a1))] rfl (by (try simp only [List.map_toArray, List.map_cons, List.map_nil]); first | done | rfl | (simp only [List.length_drop, List.length_take]; rfl)) ?_; (with_reducible refine (sat_Mul.calls a0 (wrap64 (-a1)) t241 t242 _ A11.out).mono ?_); rintro e w' ⟨rfl, ⟨nd, rfl⟩⟩; refine ⟨_, rfl, ?_⟩) | ((with_reducible refine gate_callee (f := 25) rfl ?_); refine goesL_ (some 47) rfl rfl Try.func25 (by kernel_rfl) rfl #[.int .i64 a0, .int .i64 0] rfl (by (try simp only [List.map_toArray, List.map_cons, List.map_nil]); first | done | rfl | (simp only [List.length_drop, List.length_take]; rfl)) ?_; (with_reducible refine (sat_Mul.calls a0 0 t243 t244 _ A12.out).mono ?_); rintro e w' ⟨rfl, ⟨nd, rfl⟩⟩; refine ⟨_, rfl, ?_⟩) | ((with_reducible refine gate_callee (f := 23) rfl ?_); refine goesL_ (some 54) rfl rfl Try.func23 (by kernel_rfl) rfl #[.int .i64 a0, .int .i64 (wrap64 (-a0))] rfl (by (try simp only [List.map_toArray, List.map_cons, List.map_nil]); first | done | rfl | (simp only [List.length_drop, List.length_take]; rfl)) ?_; (with_reducible refine (sat_Add.calls a0 (wrap64 (-a0)) t245 t246 _ A13.out).mono ?_); rintro e w' ⟨rfl, ⟨nd, rfl⟩⟩; refine ⟨_, rfl, ?_⟩))
              go_ret
              exact ⟨by first | rfl | (simp [errW_none, errW_some] <;> rfl) | (simp [*, errW_none, errW_some] <;> rfl), by repeat (first | (with_reducible first | exact HB.out | apply below_alloc | apply pw_below_drewN | apply below_drew1) | exact HB.out)⟩
          · rw [if_neg c14] at H
            have c14b0 : (t237 == (wrap64 (-t239))) = false := beq_eq_false_iff_ne.mpr c14
            have c14b1 : (t237 != (wrap64 (-t239))) = true := bne_iff_ne.mpr c14
            obtain rfl := Option.some.inj H
            go_wp2_with (first | ((with_reducible refine gate_callee (f := 25) rfl ?_); refine goesL_ (some 28) rfl rfl Try.func25 (by kernel_rfl) rfl #[.int .i64 a0, .int .i64 a1] rfl (by (try simp only [List.map_toArray, List.map_cons, List.map_nil]); first | done | rfl | (simp only [List.length_drop, List.length_take]; rfl)) ?_; (with_reducible refine (sat_Mul.calls a0 a1 t237 t238 _ A9.out).mono ?_); rintro e w' ⟨rfl, ⟨nd, rfl⟩⟩; refine ⟨_, rfl, ?_⟩) | ((with_reducible refine gate_callee (f := 25) rfl ?_); refine goesL_ (some 35) rfl rfl Try.func25 (by kernel_rfl) rfl #[.int .i64 (wrap64 (-a0)), .int .i64 a1] rfl (by (try simp only [List.map_toArray, List.map_cons, List.map_nil]); first | done | rfl | (simp only [List.length_drop, List.length_take]; rfl)) ?_; (with_reducible refine (sat_Mul.calls (wrap64 (-a0)) a1 t239 t240 _ A10.out).mono ?_); rintro e w' ⟨rfl, ⟨nd, rfl⟩⟩; refine ⟨_, rfl, ?_⟩) | ((with_reducible refine gate_callee (f := 25) rfl ?_); refine goesL_ (some 42) rfl rfl Try.func25 (by kernel_rfl) rfl #[.int .i64 a0, .int .i64 (wrap64 (-a1))] rfl (by (try simp only [List.map_toArray, List.map_cons, List.map_nil]); first | done | rfl | (simp only [List.length_drop, List.length_take]; rfl)) ?_; (with_reducible refine (sat_Mul.calls a0 (wrap64 (-a1)) t241 t242 _ A11.out).mono ?_); rintro e w' ⟨rfl, ⟨nd, rfl⟩⟩; refine ⟨_, rfl, ?_⟩) | ((with_reducible refine gate_callee (f := 25) rfl ?_); refine goesL_ (some 47) rfl rfl Try.func25 (by kernel_rfl) rfl #[.int .i64 a0, .int .i64 0] rfl (by (try simp only [List.map_toArray, List.map_cons, List.map_nil]); first | done | rfl | (simp only [List.length_drop, List.length_take]; rfl)) ?_; (with_reducible refine (sat_Mul.calls a0 0 t243 t244 _ A12.out).mono ?_); rintro e w' ⟨rfl, ⟨nd, rfl⟩⟩; refine ⟨_, rfl, ?_⟩) | ((with_reducible refine gate_callee (f := 23) rfl ?_); refine goesL_ (some 54) rfl rfl Try.func23 (by kernel_rfl) rfl #[.int .i64 a0, .int .i64 (wrap64 (-a0))] rfl (by (try simp only [List.map_toArray, List.map_cons, List.map_nil]); first | done | rfl | (simp only [List.length_drop, List.length_take]; rfl)) ?_; (with_reducible refine (sat_Add.calls a0 (wrap64 (-a0)) t245 t246 _ A13.out).mono ?_); rintro e w' ⟨rfl, ⟨nd, rfl⟩⟩; refine ⟨_, rfl, ?_⟩))
            go_ret
            exact ⟨by first | rfl | (simp [errW_none, errW_some] <;> rfl) | (simp [*, errW_none, errW_some] <;> rfl), by repeat (first | (with_reducible first | exact HB.out | apply below_alloc | apply pw_below_drewN | apply below_drew1) | exact HB.out)⟩
  · replace c4 := Bool.eq_false_iff.mpr c4
    subst c4
    have H1 : (some false) = some r := by rw [if_neg (show ¬ (false = true) by decide)] at H; exact H
    clear H
    have H := H1
    clear H1
    obtain rfl := Option.some.inj H
    go_enter Try.func12, Try.ntmps12
    go_wp2_with (first | ((with_reducible refine gate_callee (f := 22) rfl ?_); refine goesL_ (some 16) rfl rfl Try.func22 (by kernel_rfl) rfl #[] rfl (by (try simp only [List.map_toArray, List.map_cons, List.map_nil]); first | done | rfl | (simp only [List.length_drop, List.length_take]; rfl)) ?_; (with_reducible refine (paternosterlaw03_awake.calls k  false _ A3.out).mono ?_); rintro e w19 ⟨rfl, hb⟩; refine ⟨_, rfl, ?_⟩; have n0_ := Aside0.mk (below_step (by repeat (first | (with_reducible first | exact HB.out | apply below_alloc | apply pw_below_drewN | apply below_drew1) | exact HB.out)) hb); clear HB; have HB := n0_; clear n0_; (try clear hb); (try clear hb2); (try clear hk); (try clear hi)))
    go_ret
    exact ⟨by first | rfl | (simp [errW_none, errW_some] <;> rfl) | (simp [*, errW_none, errW_some] <;> rfl), by repeat (first | (with_reducible first | exact HB.out | apply below_alloc | apply pw_below_drewN | apply below_drew1) | exact HB.out)⟩

/-- THE ONE PURE STATEMENT of paternosterlaw03_SatSigns: yours. -/
def paternosterlaw03_SatSigns.Pure : Prop := ∀ (a0 : Int) (a1 : Int), (Lit.int .i64 a0).wf = true → (Lit.int .i64 a1).wf = true → ∃ k, paternosterlaw03_SatSigns.f k a0 a1 = some true
theorem paternosterlaw03_SatSigns.walk (P : paternosterlaw03_SatSigns.Pure) (a0 : Int) (a1 : Int) (w : World) (w0 : (Lit.int .i64 a0).wf = true) (w1 : (Lit.int .i64 a1).wf = true) :
    Calls Try.prog 12 #[.int .i64 a0, .int .i64 a1] w fun e w' => e = .returned (.bool true) ∧ Below w.heap.size w w' := by
  obtain ⟨k, h⟩ := P a0 a1 w0 w1
  refine (paternosterlaw03_SatSigns.calls k a0 a1 true w h).mono ?_
  rintro e w' ⟨rfl, hd⟩
  exact ⟨rfl, hd⟩

-- NOT PRINTED: function 29 (meter_New)

-- NOT PRINTED: function 47 (atomic_StoreInt64)

-- NOT PRINTED: function 43 (atomic_Int64_Store)

-- NOT PRINTED: function 48 (atomic_LoadInt64)

-- NOT PRINTED: function 44 (atomic_Int64_Load)

-- NOT PRINTED: function 49 (atomic_AddInt64)

-- NOT PRINTED: function 45 (atomic_Int64_Add)

-- NOT PRINTED: function 31 (meter_Meter_Tick)

-- NOT PRINTED: function 32 (meter_Meter_Last)

-- NOT PRINTED: function 33 (meter_Meter_High)

-- NOT PRINTED: function 34 (meter_Meter_Ticks)

end Go.Proofs.Ytnhiokgkhbiflaa.X
