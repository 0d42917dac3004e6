-- Written by a program of this session (wip/xprint/xprint.py runs the kit's print with hand-proved externs).
import Derived.Test.YtpnofbiflaahhaaDoorXx0
namespace Go.Proofs.YtpnofbiflaahhaaDoor.X
open Go.RowKit Go.Proofs.YtpnofbiflaahhaaDoorW.PrintWords Go.Proofs.YtpnofbiflaahhaaDoorW.PrintLast Go.Proofs.YtpnofbiflaahhaaDoorW.PrintMore
attribute [local go_sem] max2_int min2_int max_two min_two max_three min_three max_four min_four   -- for this text's walks alone
set_option linter.unusedVariables false
set_option linter.unusedSimpArgs false

/-! ### paternosterref21_May: function 12 -/
mutual
def paternosterref21_May.j0 : Nat → Int → Int → Bool → Option (Bool)
  | 0, _, _, _ => none
  | k + 1, x0, x1, x18 => if x18 = true then (some false) else (if x0 = x1 then (paternosterref21_May.j1 k x0 x1 true) else (paternosterref21_May.j1 k x0 x1 (x1 == 5)))
def paternosterref21_May.j1 : Nat → Int → Int → Bool → Option (Bool)
  | 0, _, _, _ => none
  | k + 1, x0, x1, x25 => if x25 = true then (some true) else (if x0 = 0 then (some (x1 == 1)) else (if x0 = 1 then (if x1 = 0 then (some true) else (some (x1 == 2))) else (if x0 = 2 then (if x1 = 1 then (some true) else (some (x1 == 3))) else (if x0 = 3 then (if x1 = 0 then (some true) else (if x1 = 1 then (some true) else (some (x1 == 4)))) else (if x0 = 4 then (if x1 = 0 then (some true) else (if x1 = 1 then (some true) else (some (x1 == 3)))) else (if x1 = 0 then (some true) else (some (x1 == 1))))))))
end
def paternosterref21_May.f (k : Nat) (a0 : Int) (a1 : Int) : Option (Bool) := if a0 < 0 then (paternosterref21_May.j0 k a0 a1 true) else (if a0 > 5 then (paternosterref21_May.j0 k a0 a1 true) else (if a1 < 0 then (paternosterref21_May.j0 k a0 a1 true) else (paternosterref21_May.j0 k a0 a1 (decide (a1 > 5)))))
theorem paternosterref21_May.mono_l : ∀ k, (∀ y0 y1 y2, LeO (paternosterref21_May.j0 k y0 y1 y2) (paternosterref21_May.j0 (k + 1) y0 y1 y2)) ∧ (∀ y0 y1 y2, LeO (paternosterref21_May.j1 k y0 y1 y2) (paternosterref21_May.j1 (k + 1) y0 y1 y2))
  | 0 => ⟨fun _ _ _ r h => by simp [paternosterref21_May.j0] at h, fun _ _ _ r h => by simp [paternosterref21_May.j1] at h⟩
  | k + 1 => by
    obtain ⟨ih0, ih1⟩ := paternosterref21_May.mono_l k
    refine ⟨?_, ?_⟩
    · intro y0 y1 y2
      unfold paternosterref21_May.j0
      repeat' first
      | (with_reducible exact ih0 _ _ _)
      | (with_reducible exact ih1 _ _ _)
      | (with_reducible exact LeO.refl _)
      | (with_reducible exact LeO.none _)
      | (with_reducible refine LeO.ite ?_ ?_)
      | (with_reducible refine LeO.bind ?_ (fun _ => ?_))
      | exact ih0 _ _ _
      | exact ih1 _ _ _
      | exact LeO.none _
      | refine LeO.ite ?_ ?_
      | refine LeO.bind ?_ (fun _ => ?_)
    · intro y0 y1 y2
      unfold paternosterref21_May.j1
      repeat' first
      | (with_reducible exact ih0 _ _ _)
      | (with_reducible exact ih1 _ _ _)
      | (with_reducible exact LeO.refl _)
      | (with_reducible exact LeO.none _)
      | (with_reducible refine LeO.ite ?_ ?_)
      | (with_reducible refine LeO.bind ?_ (fun _ => ?_))
      | exact ih0 _ _ _
      | exact ih1 _ _ _
      | exact LeO.none _
      | refine LeO.ite ?_ ?_
      | refine LeO.bind ?_ (fun _ => ?_)
theorem paternosterref21_May.mono : ∀ a0 a1 k, LeO (paternosterref21_May.f k a0 a1) (paternosterref21_May.f (k + 1) a0 a1) := by
  intro a0 a1 k
  obtain ⟨ih0, ih1⟩ := paternosterref21_May.mono_l k
  unfold paternosterref21_May.f
  repeat' first
      | (with_reducible exact ih0 _ _ _)
      | (with_reducible exact ih1 _ _ _)
      | (with_reducible exact LeO.refl _)
      | (with_reducible exact LeO.none _)
      | (with_reducible refine LeO.ite ?_ ?_)
      | (with_reducible refine LeO.bind ?_ (fun _ => ?_))
      | exact ih0 _ _ _
      | exact ih1 _ _ _
      | exact LeO.none _
      | refine LeO.ite ?_ ?_
      | refine LeO.bind ?_ (fun _ => ?_)
set_option maxHeartbeats 8000000 in
set_option maxRecDepth 100000 in
theorem paternosterref21_May.calls (k : Nat) (a0 : Int) (a1 : Int) (r : Bool) (w : World) (h : paternosterref21_May.f k a0 a1 = some r) :
    Calls Tryd.prog 12 #[.int .i64 a0, .int .i64 a1] w fun e w' => e = .returned (.bool r) ∧ Drawn0 w w' := by
  have H : (if a0 < 0 then (paternosterref21_May.j0 k a0 a1 true) else (if a0 > 5 then (paternosterref21_May.j0 k a0 a1 true) else (if a1 < 0 then (paternosterref21_May.j0 k a0 a1 true) else (paternosterref21_May.j0 k a0 a1 (decide (a1 > 5)))))) = some r := h
  clear h
  have HC3 := Aside0.mk H
  clear H
  go_enter Tryd.func12, Tryd.ntmps12
  go_upto_region 1 with (fail)
  go_cut [18] (fun v18 wc => ∃ (kq : Nat) (x18_2 : Bool), v18 = .bool x18_2 ∧ Aside0 (paternosterref21_May.j0 kq a0 a1 x18_2 = some r) ∧ Aside0 (kq ≤ k) ∧ Drawn0 w wc)
  case first =>
    have H := HC3.out
    clear HC3
    by_cases c4 : a0 < 0
    · rw [if_pos c4] at H
      have c4b0 : decide (a0 < 0) = true := decide_eq_true c4
      clear c4
      (first | rw [c4b0] | (simp only [i64_w, i32_w]; rw [c4b0]) | skip)
      have H' := Aside0.mk H
      clear H
      go_wp2
      go_meet
      case rel => exact ⟨_, (true), (by first | rfl | (simp; done) | (simp [*]; done)), H', ⟨by first | omega | exact Nat.le_refl _⟩, by repeat (first | exact Drawn0.refl _ | apply Drawn0.step)⟩
    · rw [if_neg c4] at H
      have c4b0 : decide (a0 < 0) = false := decide_eq_false c4
      clear c4
      (first | rw [c4b0] | (simp only [i64_w, i32_w]; rw [c4b0]) | skip)
      by_cases c5 : a0 > 5
      · rw [if_pos c5] at H
        have c5b0 : decide (5 < a0) = true := decide_eq_true c5
        clear c5
        have H' := Aside0.mk H
        clear H
        go_wp2
        go_meet
        case rel => exact ⟨_, (true), (by first | rfl | (simp; done) | (simp [*]; done)), H', ⟨by first | omega | exact Nat.le_refl _⟩, by repeat (first | exact Drawn0.refl _ | apply Drawn0.step)⟩
      · rw [if_neg c5] at H
        have c5b0 : decide (5 < a0) = false := decide_eq_false c5
        clear c5
        by_cases c6 : a1 < 0
        · rw [if_pos c6] at H
          have c6b0 : decide (a1 < 0) = true := decide_eq_true c6
          clear c6
          have H' := Aside0.mk H
          clear H
          go_wp2
          go_meet
          case rel => exact ⟨_, (true), (by first | rfl | (simp; done) | (simp [*]; done)), H', ⟨by first | omega | exact Nat.le_refl _⟩, by repeat (first | exact Drawn0.refl _ | apply Drawn0.step)⟩
        · rw [if_neg c6] at H
          have c6b0 : decide (a1 < 0) = false := decide_eq_false c6
          clear c6
          have H' := Aside0.mk H
          clear H
          go_wp2
          go_meet
          case rel => exact ⟨_, (decide (a1 > 5)), (by first | rfl | (simp; done) | (simp [*]; done)), H', ⟨by first | omega | exact Nat.le_refl _⟩, by repeat (first | exact Drawn0.refl _ | apply Drawn0.step)⟩
  case rest =>
    clear HC3
    try clear c1
    try clear p2
    try clear c4
    try clear c4b0
    try clear c5
    try clear c5b0
    try clear c6
    try clear c6b0
    obtain ⟨kq, x18_2, rfl, HA, HJ2, ⟨mc2, rfl⟩⟩ := hcut
    cases kq with
    | zero => exact absurd HA.out (by simp [paternosterref21_May.j0])
    | succ kj2 =>
      have H := HA.out
      clear HA
      simp only [paternosterref21_May.j0] at H
      by_cases c7 : x18_2 = true
      · subst c7
        have H1 : (some false) = some r := by rw [if_pos rfl] at H; exact H
        clear H
        have H := H1
        clear H1
        obtain rfl := Option.some.inj H
        go_wp2
        go_ret
        exact ⟨by first | rfl | (simp; done) | (simp [*]; done), by repeat (first | exact Drawn0.refl _ | apply Drawn0.step)⟩
      · replace c7 := Bool.eq_false_iff.mpr c7
        subst c7
        have H1 : (if a0 = a1 then (paternosterref21_May.j1 kj2 a0 a1 true) else (paternosterref21_May.j1 kj2 a0 a1 (a1 == 5))) = some r := by rw [if_neg (show ¬ (false = true) by decide)] at H; exact H
        clear H
        have H := H1
        clear H1
        have HC8 := Aside0.mk H
        clear H
        go_upto_region 3 with (fail)
        go_cut [25] (fun v25 wc => ∃ (kq : Nat) (x25_7 : Bool), v25 = .bool x25_7 ∧ Aside0 (paternosterref21_May.j1 kq a0 a1 x25_7 = some r) ∧ Aside0 (kq ≤ kj2) ∧ Drawn0 w wc)
        case first =>
          have H := HC8.out
          clear HC8
          by_cases c9 : a0 = a1
          · rw [if_pos c9] at H
            have c9b0 : (a0 == a1) = true := beq_iff_eq.mpr c9
            have c9b1 : (a0 != a1) = false := bne_eq_false_iff_eq.mpr c9
            clear c9
            (first | rw [c9b0] | (simp only [i64_w, i32_w]; rw [c9b0]) | skip)
            have H' := Aside0.mk H
            clear H
            go_wp2
            go_meet
            case rel => exact ⟨_, (true), (by first | rfl | (simp; done) | (simp [*]; done)), H', ⟨by have := HJ2.out; first | omega | exact Nat.le_refl _⟩, by repeat (first | exact Drawn0.refl _ | apply Drawn0.step)⟩
          · rw [if_neg c9] at H
            have c9b0 : (a0 == a1) = false := beq_eq_false_iff_ne.mpr c9
            have c9b1 : (a0 != a1) = true := bne_iff_ne.mpr c9
            (first | rw [c9b0] | (simp only [i64_w, i32_w]; rw [c9b0]) | skip)
            have H' := Aside0.mk H
            clear H
            go_wp2
            go_meet
            case rel => exact ⟨_, ((a1 == 5)), (by first | rfl | (simp; done) | (simp [*]; done)), H', ⟨by have := HJ2.out; first | omega | exact Nat.le_refl _⟩, by repeat (first | exact Drawn0.refl _ | apply Drawn0.step)⟩
        case rest =>
          clear HC8
          try clear c1
          try clear c2
          try clear p2
          try clear c4
          try clear c4b0
          try clear c5
          try clear c5b0
          try clear c6
          try clear c6b0
          try clear c7
          try clear c9
          try clear c9b0
          try clear c9b1
          try clear p2
          obtain ⟨kq, x25_7, rfl, HA, HJ7, ⟨mc7, rfl⟩⟩ := hcut
          cases kq with
          | zero => exact absurd HA.out (by simp [paternosterref21_May.j1])
          | succ kj7 =>
            have H := HA.out
            clear HA
            simp only [paternosterref21_May.j1] at H
            by_cases c10 : x25_7 = true
            · subst c10
              have H1 : (some true) = some r := by rw [if_pos rfl] at H; exact H
              clear H
              have H := H1
              clear H1
              obtain rfl := Option.some.inj H
              go_wp2
              go_ret
              exact ⟨by first | rfl | (simp; done) | (simp [*]; done), by repeat (first | exact Drawn0.refl _ | apply Drawn0.step)⟩
            · replace c10 := Bool.eq_false_iff.mpr c10
              subst c10
              have H1 : (if a0 = 0 then (some (a1 == 1)) else (if a0 = 1 then (if a1 = 0 then (some true) else (some (a1 == 2))) else (if a0 = 2 then (if a1 = 1 then (some true) else (some (a1 == 3))) else (if a0 = 3 then (if a1 = 0 then (some true) else (if a1 = 1 then (some true) else (some (a1 == 4)))) else (if a0 = 4 then (if a1 = 0 then (some true) else (if a1 = 1 then (some true) else (some (a1 == 3)))) else (if a1 = 0 then (some true) else (some (a1 == 1)))))))) = some r := by rw [if_neg (show ¬ (false = true) by decide)] at H; exact H
              clear H
              have H := H1
              clear H1
              by_cases c11 : a0 = 0
              · rw [if_pos c11] at H
                have c11b0 : (a0 == 0) = true := beq_iff_eq.mpr c11
                have c11b1 : (a0 != 0) = false := bne_eq_false_iff_eq.mpr c11
                clear c11
                obtain rfl := Option.some.inj H
                go_wp2
                go_ret
                exact ⟨by first | rfl | (simp; done) | (simp [*]; done), by repeat (first | exact Drawn0.refl _ | apply Drawn0.step)⟩
              · rw [if_neg c11] at H
                have c11b0 : (a0 == 0) = false := beq_eq_false_iff_ne.mpr c11
                have c11b1 : (a0 != 0) = true := bne_iff_ne.mpr c11
                by_cases c12 : a0 = 1
                · rw [if_pos c12] at H
                  have c12b0 : (a0 == 1) = true := beq_iff_eq.mpr c12
                  have c12b1 : (a0 != 1) = false := bne_eq_false_iff_eq.mpr c12
                  clear c12
                  by_cases c13 : a1 = 0
                  · rw [if_pos c13] at H
                    have c13b0 : (a1 == 0) = true := beq_iff_eq.mpr c13
                    have c13b1 : (a1 != 0) = false := bne_eq_false_iff_eq.mpr c13
                    clear c13
                    obtain rfl := Option.some.inj H
                    go_wp2
                    go_ret
                    exact ⟨by first | rfl | (simp; done) | (simp [*]; done), by repeat (first | exact Drawn0.refl _ | apply Drawn0.step)⟩
                  · rw [if_neg c13] at H
                    have c13b0 : (a1 == 0) = false := beq_eq_false_iff_ne.mpr c13
                    have c13b1 : (a1 != 0) = true := bne_iff_ne.mpr c13
                    obtain rfl := Option.some.inj H
                    go_wp2
                    go_ret
                    exact ⟨by first | rfl | (simp; done) | (simp [*]; done), by repeat (first | exact Drawn0.refl _ | apply Drawn0.step)⟩
                · rw [if_neg c12] at H
                  have c12b0 : (a0 == 1) = false := beq_eq_false_iff_ne.mpr c12
                  have c12b1 : (a0 != 1) = true := bne_iff_ne.mpr c12
                  by_cases c14 : a0 = 2
                  · rw [if_pos c14] at H
                    have c14b0 : (a0 == 2) = true := beq_iff_eq.mpr c14
                    have c14b1 : (a0 != 2) = false := bne_eq_false_iff_eq.mpr c14
                    clear c14
                    by_cases c15 : a1 = 1
                    · rw [if_pos c15] at H
                      have c15b0 : (a1 == 1) = true := beq_iff_eq.mpr c15
                      have c15b1 : (a1 != 1) = false := bne_eq_false_iff_eq.mpr c15
                      clear c15
                      obtain rfl := Option.some.inj H
                      go_wp2
                      go_ret
                      exact ⟨by first | rfl | (simp; done) | (simp [*]; done), by repeat (first | exact Drawn0.refl _ | apply Drawn0.step)⟩
                    · rw [if_neg c15] at H
                      have c15b0 : (a1 == 1) = false := beq_eq_false_iff_ne.mpr c15
                      have c15b1 : (a1 != 1) = true := bne_iff_ne.mpr c15
                      obtain rfl := Option.some.inj H
                      go_wp2
                      go_ret
                      exact ⟨by first | rfl | (simp; done) | (simp [*]; done), by repeat (first | exact Drawn0.refl _ | apply Drawn0.step)⟩
                  · rw [if_neg c14] at H
                    have c14b0 : (a0 == 2) = false := beq_eq_false_iff_ne.mpr c14
                    have c14b1 : (a0 != 2) = true := bne_iff_ne.mpr c14
                    by_cases c16 : a0 = 3
                    · rw [if_pos c16] at H
                      have c16b0 : (a0 == 3) = true := beq_iff_eq.mpr c16
                      have c16b1 : (a0 != 3) = false := bne_eq_false_iff_eq.mpr c16
                      clear c16
                      by_cases c17 : a1 = 0
                      · rw [if_pos c17] at H
                        have c17b0 : (a1 == 0) = true := beq_iff_eq.mpr c17
                        have c17b1 : (a1 != 0) = false := bne_eq_false_iff_eq.mpr c17
                        clear c17
                        obtain rfl := Option.some.inj H
                        go_wp2
                        go_ret
                        exact ⟨by first | rfl | (simp; done) | (simp [*]; done), by repeat (first | exact Drawn0.refl _ | apply Drawn0.step)⟩
                      · rw [if_neg c17] at H
                        have c17b0 : (a1 == 0) = false := beq_eq_false_iff_ne.mpr c17
                        have c17b1 : (a1 != 0) = true := bne_iff_ne.mpr c17
                        by_cases c18 : a1 = 1
                        · rw [if_pos c18] at H
                          have c18b0 : (a1 == 1) = true := beq_iff_eq.mpr c18
                          have c18b1 : (a1 != 1) = false := bne_eq_false_iff_eq.mpr c18
                          clear c18
                          obtain rfl := Option.some.inj H
                          go_wp2
                          go_ret
                          exact ⟨by first | rfl | (simp; done) | (simp [*]; done), by repeat (first | exact Drawn0.refl _ | apply Drawn0.step)⟩
                        · rw [if_neg c18] at H
                          have c18b0 : (a1 == 1) = false := beq_eq_false_iff_ne.mpr c18
                          have c18b1 : (a1 != 1) = true := bne_iff_ne.mpr c18
                          obtain rfl := Option.some.inj H
                          go_wp2
                          go_ret
                          exact ⟨by first | rfl | (simp; done) | (simp [*]; done), by repeat (first | exact Drawn0.refl _ | apply Drawn0.step)⟩
                    · rw [if_neg c16] at H
                      have c16b0 : (a0 == 3) = false := beq_eq_false_iff_ne.mpr c16
                      have c16b1 : (a0 != 3) = true := bne_iff_ne.mpr c16
                      by_cases c19 : a0 = 4
                      · rw [if_pos c19] at H
                        have c19b0 : (a0 == 4) = true := beq_iff_eq.mpr c19
                        have c19b1 : (a0 != 4) = false := bne_eq_false_iff_eq.mpr c19
                        clear c19
                        by_cases c20 : a1 = 0
                        · rw [if_pos c20] at H
                          have c20b0 : (a1 == 0) = true := beq_iff_eq.mpr c20
                          have c20b1 : (a1 != 0) = false := bne_eq_false_iff_eq.mpr c20
                          clear c20
                          obtain rfl := Option.some.inj H
                          go_wp2
                          go_ret
                          exact ⟨by first | rfl | (simp; done) | (simp [*]; done), by repeat (first | exact Drawn0.refl _ | apply Drawn0.step)⟩
                        · rw [if_neg c20] at H
                          have c20b0 : (a1 == 0) = false := beq_eq_false_iff_ne.mpr c20
                          have c20b1 : (a1 != 0) = true := bne_iff_ne.mpr c20
                          by_cases c21 : a1 = 1
                          · rw [if_pos c21] at H
                            have c21b0 : (a1 == 1) = true := beq_iff_eq.mpr c21
                            have c21b1 : (a1 != 1) = false := bne_eq_false_iff_eq.mpr c21
                            clear c21
                            obtain rfl := Option.some.inj H
                            go_wp2
                            go_ret
                            exact ⟨by first | rfl | (simp; done) | (simp [*]; done), by repeat (first | exact Drawn0.refl _ | apply Drawn0.step)⟩
                          · rw [if_neg c21] at H
                            have c21b0 : (a1 == 1) = false := beq_eq_false_iff_ne.mpr c21
                            have c21b1 : (a1 != 1) = true := bne_iff_ne.mpr c21
                            obtain rfl := Option.some.inj H
                            go_wp2
                            go_ret
                            exact ⟨by first | rfl | (simp; done) | (simp [*]; done), by repeat (first | exact Drawn0.refl _ | apply Drawn0.step)⟩
                      · rw [if_neg c19] at H
                        have c19b0 : (a0 == 4) = false := beq_eq_false_iff_ne.mpr c19
                        have c19b1 : (a0 != 4) = true := bne_iff_ne.mpr c19
                        by_cases c22 : a1 = 0
                        · rw [if_pos c22] at H
                          have c22b0 : (a1 == 0) = true := beq_iff_eq.mpr c22
                          have c22b1 : (a1 != 0) = false := bne_eq_false_iff_eq.mpr c22
                          clear c22
                          obtain rfl := Option.some.inj H
                          go_wp2
                          go_ret
                          exact ⟨by first | rfl | (simp; done) | (simp [*]; done), by repeat (first | exact Drawn0.refl _ | apply Drawn0.step)⟩
                        · rw [if_neg c22] at H
                          have c22b0 : (a1 == 0) = false := beq_eq_false_iff_ne.mpr c22
                          have c22b1 : (a1 != 0) = true := bne_iff_ne.mpr c22
                          obtain rfl := Option.some.inj H
                          go_wp2
                          go_ret
                          exact ⟨by first | rfl | (simp; done) | (simp [*]; done), by repeat (first | exact Drawn0.refl _ | apply Drawn0.step)⟩

end Go.Proofs.YtpnofbiflaahhaaDoor.X
