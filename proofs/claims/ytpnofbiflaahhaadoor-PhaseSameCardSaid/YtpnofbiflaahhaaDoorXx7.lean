-- Written by a program of this session (wip/xprint/xprint.py runs the kit's print with hand-proved externs).
import Derived.Test.YtpnofbiflaahhaaDoorXx0
namespace Go.Proofs.YtpnofbiflaahhaaDoor.X
open Go.RowKit Go.Proofs.YtpnofbiflaahhaaDoorW.PrintWords Go.Proofs.YtpnofbiflaahhaaDoorW.PrintLast Go.Proofs.YtpnofbiflaahhaaDoorW.PrintMore
attribute [local go_sem] max2_int min2_int max_two min_two max_three min_three max_four min_four   -- for this text's walks alone
set_option linter.unusedVariables false
set_option linter.unusedSimpArgs false

/-! ### paternosterref21_Fits: function 14 -/
mutual
def paternosterref21_Fits.l0 : Nat → List Int → Int → Option (Bool)
  | 0, _, _ => none
  | k + 1, x0, x3 => if x3 < (x0.length : Int) then (if 0 ≤ x3 then (if (rd x0 x3) < 0 then (paternosterref21_Fits.j1 k x0 x3 true) else (paternosterref21_Fits.j1 k x0 x3 (decide ((rd x0 x3) > 5)))) else (none)) else (some true)
def paternosterref21_Fits.j1 : Nat → List Int → Int → Bool → Option (Bool)
  | 0, _, _, _ => none
  | k + 1, x0, x3, x22 => if x22 = true then (some false) else (paternosterref21_Fits.l1 k x0 x3 0)
def paternosterref21_Fits.l1 : Nat → List Int → Int → Int → Option (Bool)
  | 0, _, _, _ => none
  | k + 1, x0, x3, x4 => if x4 < (x0.length : Int) then (if x3 = x4 then (paternosterref21_Fits.j3 k x0 x3 x4 false) else (if 0 ≤ x3 then (if x3 < (x0.length : Int) then (if (rd x0 x3) = 2 then (if 0 ≤ x4 then (if (rd x0 x4) = 2 then (paternosterref21_Fits.j3 k x0 x3 x4 true) else (paternosterref21_Fits.j3 k x0 x3 x4 ((rd x0 x4) == 4))) else (none)) else (if (rd x0 x3) = 4 then (if 0 ≤ x4 then (if (rd x0 x4) = 2 then (paternosterref21_Fits.j3 k x0 x3 x4 true) else (paternosterref21_Fits.j3 k x0 x3 x4 ((rd x0 x4) == 4))) else (none)) else (paternosterref21_Fits.j3 k x0 x3 x4 false))) else (none)) else (none))) else (paternosterref21_Fits.l0 k x0 (wrap64 (x3 + 1)))
def paternosterref21_Fits.j3 : Nat → List Int → Int → Int → Bool → Option (Bool)
  | 0, _, _, _, _ => none
  | k + 1, x0, x3, x4, x59 => if x59 = true then (some false) else (if 0 ≤ x3 then (if x3 < (x0.length : Int) then (if (rd x0 x3) = 0 then (if 0 ≤ x4 then (if x4 < (x0.length : Int) then (if (rd x0 x4) = 0 then (paternosterref21_Fits.l1 k x0 x3 (wrap64 (x4 + 1))) else (if (rd x0 x4) = 5 then (paternosterref21_Fits.l1 k x0 x3 (wrap64 (x4 + 1))) else (some false))) else (none)) else (none)) else (paternosterref21_Fits.l1 k x0 x3 (wrap64 (x4 + 1)))) else (none)) else (none))
end
def paternosterref21_Fits.f (k : Nat) (l0 : List Int) : Option (Bool) := paternosterref21_Fits.l0 k l0 0
theorem paternosterref21_Fits.mono_l : ∀ k, (∀ y0 y1, LeO (paternosterref21_Fits.l0 k y0 y1) (paternosterref21_Fits.l0 (k + 1) y0 y1)) ∧ (∀ y0 y1 y2, LeO (paternosterref21_Fits.j1 k y0 y1 y2) (paternosterref21_Fits.j1 (k + 1) y0 y1 y2)) ∧ (∀ y0 y1 y2, LeO (paternosterref21_Fits.l1 k y0 y1 y2) (paternosterref21_Fits.l1 (k + 1) y0 y1 y2)) ∧ (∀ y0 y1 y2 y3, LeO (paternosterref21_Fits.j3 k y0 y1 y2 y3) (paternosterref21_Fits.j3 (k + 1) y0 y1 y2 y3))
  | 0 => ⟨fun _ _ r h => by simp [paternosterref21_Fits.l0] at h, fun _ _ _ r h => by simp [paternosterref21_Fits.j1] at h, fun _ _ _ r h => by simp [paternosterref21_Fits.l1] at h, fun _ _ _ _ r h => by simp [paternosterref21_Fits.j3] at h⟩
  | k + 1 => by
    obtain ⟨ih0, ih1, ih2, ih3⟩ := paternosterref21_Fits.mono_l k
    refine ⟨?_, ?_, ?_, ?_⟩
    · intro y0 y1
      unfold paternosterref21_Fits.l0
      repeat' first
      | (with_reducible exact ih0 _ _)
      | (with_reducible exact ih1 _ _ _)
      | (with_reducible exact ih2 _ _ _)
      | (with_reducible exact ih3 _ _ _ _)
      | (with_reducible exact LeO.refl _)
      | (with_reducible exact LeO.none _)
      | (with_reducible refine LeO.ite ?_ ?_)
      | (with_reducible refine LeO.bind ?_ (fun _ => ?_))
      | exact ih0 _ _
      | exact ih1 _ _ _
      | exact ih2 _ _ _
      | exact ih3 _ _ _ _
      | exact LeO.none _
      | refine LeO.ite ?_ ?_
      | refine LeO.bind ?_ (fun _ => ?_)
    · intro y0 y1 y2
      unfold paternosterref21_Fits.j1
      repeat' first
      | (with_reducible exact ih0 _ _)
      | (with_reducible exact ih1 _ _ _)
      | (with_reducible exact ih2 _ _ _)
      | (with_reducible exact ih3 _ _ _ _)
      | (with_reducible exact LeO.refl _)
      | (with_reducible exact LeO.none _)
      | (with_reducible refine LeO.ite ?_ ?_)
      | (with_reducible refine LeO.bind ?_ (fun _ => ?_))
      | exact ih0 _ _
      | exact ih1 _ _ _
      | exact ih2 _ _ _
      | exact ih3 _ _ _ _
      | exact LeO.none _
      | refine LeO.ite ?_ ?_
      | refine LeO.bind ?_ (fun _ => ?_)
    · intro y0 y1 y2
      unfold paternosterref21_Fits.l1
      repeat' first
      | (with_reducible exact ih0 _ _)
      | (with_reducible exact ih1 _ _ _)
      | (with_reducible exact ih2 _ _ _)
      | (with_reducible exact ih3 _ _ _ _)
      | (with_reducible exact LeO.refl _)
      | (with_reducible exact LeO.none _)
      | (with_reducible refine LeO.ite ?_ ?_)
      | (with_reducible refine LeO.bind ?_ (fun _ => ?_))
      | exact ih0 _ _
      | exact ih1 _ _ _
      | exact ih2 _ _ _
      | exact ih3 _ _ _ _
      | exact LeO.none _
      | refine LeO.ite ?_ ?_
      | refine LeO.bind ?_ (fun _ => ?_)
    · intro y0 y1 y2 y3
      unfold paternosterref21_Fits.j3
      repeat' first
      | (with_reducible exact ih0 _ _)
      | (with_reducible exact ih1 _ _ _)
      | (with_reducible exact ih2 _ _ _)
      | (with_reducible exact ih3 _ _ _ _)
      | (with_reducible exact LeO.refl _)
      | (with_reducible exact LeO.none _)
      | (with_reducible refine LeO.ite ?_ ?_)
      | (with_reducible refine LeO.bind ?_ (fun _ => ?_))
      | exact ih0 _ _
      | exact ih1 _ _ _
      | exact ih2 _ _ _
      | exact ih3 _ _ _ _
      | exact LeO.none _
      | refine LeO.ite ?_ ?_
      | refine LeO.bind ?_ (fun _ => ?_)
theorem paternosterref21_Fits.mono : ∀ a0 k, LeO (paternosterref21_Fits.f k a0) (paternosterref21_Fits.f (k + 1) a0) := by
  intro a0 k
  obtain ⟨ih0, ih1, ih2, ih3⟩ := paternosterref21_Fits.mono_l k
  unfold paternosterref21_Fits.f
  repeat' first
      | (with_reducible exact ih0 _ _)
      | (with_reducible exact ih1 _ _ _)
      | (with_reducible exact ih2 _ _ _)
      | (with_reducible exact ih3 _ _ _ _)
      | (with_reducible exact LeO.refl _)
      | (with_reducible exact LeO.none _)
      | (with_reducible refine LeO.ite ?_ ?_)
      | (with_reducible refine LeO.bind ?_ (fun _ => ?_))
      | exact ih0 _ _
      | exact ih1 _ _ _
      | exact ih2 _ _ _
      | exact ih3 _ _ _ _
      | exact LeO.none _
      | refine LeO.ite ?_ ?_
      | refine LeO.bind ?_ (fun _ => ?_)
set_option maxHeartbeats 8000000 in
set_option maxRecDepth 100000 in
theorem paternosterref21_Fits.calls (k : Nat) (A0 : Option Addr) (c0 : Nat) (l0 : List Int) (r : Bool) (w : World) (hr0 : Kd.C (Kd.int .i64) w A0 l0.length l0) (hc0 : l0.length ≤ c0) (h : paternosterref21_Fits.f k l0 = some r) :
    Calls Tryd.prog 14 #[.slice A0 l0.length c0] w fun e w' => e = .returned (.bool r) ∧ Drawn0 w w' := by
  have HR0 := Aside0.mk hr0
  have HC0 := Aside0.mk hc0
  clear hr0 hc0
  have H : (paternosterref21_Fits.l0 k l0 0) = some r := h
  clear h
  have H' := Aside0.mk H
  clear H
  go_enter Tryd.func14, Tryd.ntmps14
  go_wp2
  go_loopg [3] k (fun kq v3 w' => ∃ (x3_1 : Int), v3 = .int .i64 x3_1 ∧ Aside0 (paternosterref21_Fits.l0 kq l0 x3_1 = some r) ∧ Aside0 (kq ≤ k) ∧ Drawn0 w w')
  case atStart => exact ⟨(0), (by first | rfl | (simp; done) | (simp [*]; done)), H', ⟨Nat.le_refl _⟩, by repeat (first | exact Drawn0.refl _ | apply Drawn0.step)⟩
  case round =>
    clear H'
    try clear c1
    obtain ⟨x3_1, rfl, HA, HK1, ⟨m1, rfl⟩⟩ := hrel
    cases gk with
    | zero => exact absurd HA.out (by simp [paternosterref21_Fits.l0])
    | succ k1 =>
      have H := HA.out
      clear HA
      simp only [paternosterref21_Fits.l0] at H
      by_cases c2 : x3_1 < (l0.length : Int)
      · rw [if_pos c2] at H
        have c2b0 : decide (x3_1 < (l0.length : Int)) = true := decide_eq_true c2
        clear c2
        have HC3 := Aside0.mk H
        clear H
        go_upto_region 4 with (fail)
        go_cut [22] (fun v22 wc => ∃ (kq : Nat) (x22_2 : Bool), v22 = .bool x22_2 ∧ Aside0 (paternosterref21_Fits.j1 kq l0 x3_1 x22_2 = some r) ∧ Aside0 (kq ≤ k1) ∧ Drawn0 w wc)
        case first =>
          have H := HC3.out
          clear HC3
          by_cases c4 : 0 ≤ x3_1
          · rw [if_pos c4] at H
            have c4b0 : decide (0 ≤ x3_1) = true := decide_eq_true c4
            clear c4
            (first | rw [c4b0] | (simp only [i64_w, i32_w]; rw [c4b0]) | skip)
            by_cases c5 : (rd l0 x3_1) < 0
            · rw [if_pos c5] at H
              have c5b0 : decide ((rd l0 x3_1) < 0) = true := decide_eq_true c5
              clear c5
              have H' := Aside0.mk H
              clear H
              have p130 : 0 ≤ (x3_1 : Int) := of_decide_eq_true (by first | (with_reducible assumption) | assumption)
              have q130 : x3_1 < (l0.length : Int) := of_decide_eq_true (by first | (with_reducible assumption) | assumption)
              obtain ⟨ad130, e130, hx130_0⟩ := Kd.at_int HR0.out x3_1 p130 q130
              cases e130
              replace p130 := eq_true p130
              replace q130 := eq_true q130
              go_wp2
              go_meet
              case rel => exact ⟨_, (true), (by first | rfl | (simp; done) | (simp [*]; done)), H', ⟨by have := HK1.out; first | omega | exact Nat.le_refl _⟩, by repeat (first | exact Drawn0.refl _ | apply Drawn0.step)⟩
            · rw [if_neg c5] at H
              have c5b0 : decide ((rd l0 x3_1) < 0) = false := decide_eq_false c5
              clear c5
              have H' := Aside0.mk H
              clear H
              have p130 : 0 ≤ (x3_1 : Int) := of_decide_eq_true (by first | (with_reducible assumption) | assumption)
              have q130 : x3_1 < (l0.length : Int) := of_decide_eq_true (by first | (with_reducible assumption) | assumption)
              obtain ⟨ad130, e130, hx130_0⟩ := Kd.at_int HR0.out x3_1 p130 q130
              cases e130
              replace p130 := eq_true p130
              replace q130 := eq_true q130
              have p131 : 0 ≤ (x3_1 : Int) := of_decide_eq_true (by first | (with_reducible assumption) | assumption)
              have q131 : x3_1 < (l0.length : Int) := of_decide_eq_true (by first | (with_reducible assumption) | assumption)
              obtain ⟨ad131, e131, hx131_0⟩ := Kd.at_int HR0.out x3_1 p131 q131
              obtain rfl : ad130 = ad131 := (by injection e131)
              replace p131 := eq_true p131
              replace q131 := eq_true q131
              go_wp2
              go_meet
              case rel => exact ⟨_, (decide ((rd l0 x3_1) > 5)), (by first | rfl | (simp; done) | (simp [*]; done)), H', ⟨by have := HK1.out; first | omega | exact Nat.le_refl _⟩, by repeat (first | exact Drawn0.refl _ | apply Drawn0.step)⟩
          · rw [if_neg c4] at H
            exact absurd H (by simp)
        case rest =>
          clear HC3
          try clear c1
          try clear p1
          try clear q1
          try clear hx1
          try clear c2
          try clear c2b0
          try clear p2
          try clear c4
          try clear c4b0
          try clear c5
          try clear c5b0
          try clear hx130_0
          try clear hx131_0
          try clear p130
          try clear p131
          try clear q130
          try clear q131
          obtain ⟨kq, x22_2, rfl, HA, HJ2, ⟨mc2, rfl⟩⟩ := hcut
          cases kq with
          | zero => exact absurd HA.out (by simp [paternosterref21_Fits.j1])
          | succ kj2 =>
            have H := HA.out
            clear HA
            simp only [paternosterref21_Fits.j1] at H
            by_cases c6 : x22_2 = true
            · subst c6
              have H1 : (some false) = some r := by rw [if_pos rfl] at H; exact H
              clear H
              have H := H1
              clear H1
              obtain rfl := Option.some.inj H
              go_wp2
              go_ret
              exact ⟨by first | rfl | (simp; done) | (simp [*]; done), by repeat (first | exact Drawn0.refl _ | apply Drawn0.step)⟩
            · replace c6 := Bool.eq_false_iff.mpr c6
              subst c6
              have H1 : (paternosterref21_Fits.l1 kj2 l0 x3_1 0) = some r := by rw [if_neg (show ¬ (false = true) by decide)] at H; exact H
              clear H
              have H := H1
              clear H1
              have H' := Aside0.mk H
              clear H
              go_wp2
              go_loopg [4] kj2 (fun kq v4 w' => ∃ (x4_3 : Int), v4 = .int .i64 x4_3 ∧ Aside0 (paternosterref21_Fits.l1 kq l0 x3_1 x4_3 = some r) ∧ Aside0 (kq ≤ kj2) ∧ Drawn0 w w')
              case atStart => exact ⟨(0), (by first | rfl | (simp; done) | (simp [*]; done)), H', ⟨Nat.le_refl _⟩, by repeat (first | exact Drawn0.refl _ | apply Drawn0.step)⟩
              case round =>
                clear H'
                try clear c1
                try clear p1
                try clear q1
                try clear hx1
                try clear c2
                try clear c2b0
                try clear p2
                try clear c4
                try clear c4b0
                try clear c5
                try clear c5b0
                try clear c6
                try clear hx130_0
                try clear hx131_0
                try clear p1
                try clear p130
                try clear p131
                try clear p2
                try clear q1
                try clear q130
                try clear q131
                obtain ⟨x4_3, rfl, HA, HK3, ⟨m3, rfl⟩⟩ := hrel
                cases gk with
                | zero => exact absurd HA.out (by simp [paternosterref21_Fits.l1])
                | succ k3 =>
                  have H := HA.out
                  clear HA
                  simp only [paternosterref21_Fits.l1] at H
                  by_cases c7 : x4_3 < (l0.length : Int)
                  · rw [if_pos c7] at H
                    have c7b0 : decide (x4_3 < (l0.length : Int)) = true := decide_eq_true c7
                    clear c7
                    have HC8 := Aside0.mk H
                    clear H
                    go_upto_region 9 with (fail)
                    go_cut [59] (fun v59 wc => ∃ (kq : Nat) (x59_7 : Bool), v59 = .bool x59_7 ∧ Aside0 (paternosterref21_Fits.j3 kq l0 x3_1 x4_3 x59_7 = some r) ∧ Aside0 (kq ≤ k3) ∧ Drawn0 w wc)
                    case first =>
                      have H := HC8.out
                      clear HC8
                      by_cases c9 : x3_1 = x4_3
                      · rw [if_pos c9] at H
                        have c9b0 : (x3_1 == x4_3) = true := beq_iff_eq.mpr c9
                        have c9b1 : (x3_1 != x4_3) = false := bne_eq_false_iff_eq.mpr c9
                        clear c9
                        (first | rw [c9b0] | (simp only [i64_w, i32_w]; rw [c9b0]) | skip)
                        have H' := Aside0.mk H
                        clear H
                        go_wp2
                        go_meet
                        case rel => exact ⟨_, (false), (by first | rfl | (simp; done) | (simp [*]; done)), H', ⟨by have := HK1.out; have := HJ2.out; have := HK3.out; first | omega | exact Nat.le_refl _⟩, by repeat (first | exact Drawn0.refl _ | apply Drawn0.step)⟩
                      · rw [if_neg c9] at H
                        have c9b0 : (x3_1 == x4_3) = false := beq_eq_false_iff_ne.mpr c9
                        have c9b1 : (x3_1 != x4_3) = true := bne_iff_ne.mpr c9
                        (first | rw [c9b0] | (simp only [i64_w, i32_w]; rw [c9b0]) | skip)
                        by_cases c10 : 0 ≤ x3_1
                        · rw [if_pos c10] at H
                          have c10b0 : decide (0 ≤ x3_1) = true := decide_eq_true c10
                          clear c10
                          by_cases c11 : x3_1 < (l0.length : Int)
                          · rw [if_pos c11] at H
                            have c11b0 : decide (x3_1 < (l0.length : Int)) = true := decide_eq_true c11
                            clear c11
                            by_cases c12 : (rd l0 x3_1) = 2
                            · rw [if_pos c12] at H
                              have c12b0 : ((rd l0 x3_1) == 2) = true := beq_iff_eq.mpr c12
                              have c12b1 : ((rd l0 x3_1) != 2) = false := bne_eq_false_iff_eq.mpr c12
                              clear c12
                              by_cases c13 : 0 ≤ x4_3
                              · rw [if_pos c13] at H
                                have c13b0 : decide (0 ≤ x4_3) = true := decide_eq_true c13
                                clear c13
                                by_cases c14 : (rd l0 x4_3) = 2
                                · rw [if_pos c14] at H
                                  have c14b0 : ((rd l0 x4_3) == 2) = true := beq_iff_eq.mpr c14
                                  have c14b1 : ((rd l0 x4_3) != 2) = false := bne_eq_false_iff_eq.mpr c14
                                  clear c14
                                  have H' := Aside0.mk H
                                  clear H
                                  have p132 : 0 ≤ (x3_1 : Int) := of_decide_eq_true (by first | (with_reducible assumption) | assumption)
                                  have q132 : x3_1 < (l0.length : Int) := of_decide_eq_true (by first | (with_reducible assumption) | assumption)
                                  obtain ⟨ad132, e132, hx132_0⟩ := Kd.at_int HR0.out x3_1 p132 q132
                                  cases e132
                                  replace p132 := eq_true p132
                                  replace q132 := eq_true q132
                                  have p133 : 0 ≤ (x4_3 : Int) := of_decide_eq_true (by first | (with_reducible assumption) | assumption)
                                  have q133 : x4_3 < (l0.length : Int) := of_decide_eq_true (by first | (with_reducible assumption) | assumption)
                                  obtain ⟨ad133, e133, hx133_0⟩ := Kd.at_int HR0.out x4_3 p133 q133
                                  obtain rfl : ad132 = ad133 := (by injection e133)
                                  replace p133 := eq_true p133
                                  replace q133 := eq_true q133
                                  go_wp2
                                  go_meet
                                  case rel => exact ⟨_, (true), (by first | rfl | (simp; done) | (simp [*]; done)), H', ⟨by have := HK1.out; have := HJ2.out; have := HK3.out; first | omega | exact Nat.le_refl _⟩, by repeat (first | exact Drawn0.refl _ | apply Drawn0.step)⟩
                                · rw [if_neg c14] at H
                                  have c14b0 : ((rd l0 x4_3) == 2) = false := beq_eq_false_iff_ne.mpr c14
                                  have c14b1 : ((rd l0 x4_3) != 2) = true := bne_iff_ne.mpr c14
                                  have H' := Aside0.mk H
                                  clear H
                                  have p132 : 0 ≤ (x3_1 : Int) := of_decide_eq_true (by first | (with_reducible assumption) | assumption)
                                  have q132 : x3_1 < (l0.length : Int) := of_decide_eq_true (by first | (with_reducible assumption) | assumption)
                                  obtain ⟨ad132, e132, hx132_0⟩ := Kd.at_int HR0.out x3_1 p132 q132
                                  cases e132
                                  replace p132 := eq_true p132
                                  replace q132 := eq_true q132
                                  have p133 : 0 ≤ (x4_3 : Int) := of_decide_eq_true (by first | (with_reducible assumption) | assumption)
                                  have q133 : x4_3 < (l0.length : Int) := of_decide_eq_true (by first | (with_reducible assumption) | assumption)
                                  obtain ⟨ad133, e133, hx133_0⟩ := Kd.at_int HR0.out x4_3 p133 q133
                                  obtain rfl : ad132 = ad133 := (by injection e133)
                                  replace p133 := eq_true p133
                                  replace q133 := eq_true q133
                                  have p134 : 0 ≤ (x4_3 : Int) := of_decide_eq_true (by first | (with_reducible assumption) | assumption)
                                  have q134 : x4_3 < (l0.length : Int) := of_decide_eq_true (by first | (with_reducible assumption) | assumption)
                                  obtain ⟨ad134, e134, hx134_0⟩ := Kd.at_int HR0.out x4_3 p134 q134
                                  obtain rfl : ad132 = ad134 := (by injection e134)
                                  replace p134 := eq_true p134
                                  replace q134 := eq_true q134
                                  go_wp2
                                  go_meet
                                  case rel => exact ⟨_, (((rd l0 x4_3) == 4)), (by first | rfl | (simp; done) | (simp [*]; done)), H', ⟨by have := HK1.out; have := HJ2.out; have := HK3.out; first | omega | exact Nat.le_refl _⟩, by repeat (first | exact Drawn0.refl _ | apply Drawn0.step)⟩
                              · rw [if_neg c13] at H
                                exact absurd H (by simp)
                            · rw [if_neg c12] at H
                              have c12b0 : ((rd l0 x3_1) == 2) = false := beq_eq_false_iff_ne.mpr c12
                              have c12b1 : ((rd l0 x3_1) != 2) = true := bne_iff_ne.mpr c12
                              by_cases c15 : (rd l0 x3_1) = 4
                              · rw [if_pos c15] at H
                                have c15b0 : ((rd l0 x3_1) == 4) = true := beq_iff_eq.mpr c15
                                have c15b1 : ((rd l0 x3_1) != 4) = false := bne_eq_false_iff_eq.mpr c15
                                clear c15
                                by_cases c16 : 0 ≤ x4_3
                                · rw [if_pos c16] at H
                                  have c16b0 : decide (0 ≤ x4_3) = true := decide_eq_true c16
                                  clear c16
                                  by_cases c17 : (rd l0 x4_3) = 2
                                  · rw [if_pos c17] at H
                                    have c17b0 : ((rd l0 x4_3) == 2) = true := beq_iff_eq.mpr c17
                                    have c17b1 : ((rd l0 x4_3) != 2) = false := bne_eq_false_iff_eq.mpr c17
                                    clear c17
                                    have H' := Aside0.mk H
                                    clear H
                                    have p132 : 0 ≤ (x3_1 : Int) := of_decide_eq_true (by first | (with_reducible assumption) | assumption)
                                    have q132 : x3_1 < (l0.length : Int) := of_decide_eq_true (by first | (with_reducible assumption) | assumption)
                                    obtain ⟨ad132, e132, hx132_0⟩ := Kd.at_int HR0.out x3_1 p132 q132
                                    cases e132
                                    replace p132 := eq_true p132
                                    replace q132 := eq_true q132
                                    have p135 : 0 ≤ (x3_1 : Int) := of_decide_eq_true (by first | (with_reducible assumption) | assumption)
                                    have q135 : x3_1 < (l0.length : Int) := of_decide_eq_true (by first | (with_reducible assumption) | assumption)
                                    obtain ⟨ad135, e135, hx135_0⟩ := Kd.at_int HR0.out x3_1 p135 q135
                                    obtain rfl : ad132 = ad135 := (by injection e135)
                                    replace p135 := eq_true p135
                                    replace q135 := eq_true q135
                                    have p136 : 0 ≤ (x4_3 : Int) := of_decide_eq_true (by first | (with_reducible assumption) | assumption)
                                    have q136 : x4_3 < (l0.length : Int) := of_decide_eq_true (by first | (with_reducible assumption) | assumption)
                                    obtain ⟨ad136, e136, hx136_0⟩ := Kd.at_int HR0.out x4_3 p136 q136
                                    obtain rfl : ad132 = ad136 := (by injection e136)
                                    replace p136 := eq_true p136
                                    replace q136 := eq_true q136
                                    go_wp2
                                    go_meet
                                    case rel => exact ⟨_, (true), (by first | rfl | (simp; done) | (simp [*]; done)), H', ⟨by have := HK1.out; have := HJ2.out; have := HK3.out; first | omega | exact Nat.le_refl _⟩, by repeat (first | exact Drawn0.refl _ | apply Drawn0.step)⟩
                                  · rw [if_neg c17] at H
                                    have c17b0 : ((rd l0 x4_3) == 2) = false := beq_eq_false_iff_ne.mpr c17
                                    have c17b1 : ((rd l0 x4_3) != 2) = true := bne_iff_ne.mpr c17
                                    have H' := Aside0.mk H
                                    clear H
                                    have p132 : 0 ≤ (x3_1 : Int) := of_decide_eq_true (by first | (with_reducible assumption) | assumption)
                                    have q132 : x3_1 < (l0.length : Int) := of_decide_eq_true (by first | (with_reducible assumption) | assumption)
                                    obtain ⟨ad132, e132, hx132_0⟩ := Kd.at_int HR0.out x3_1 p132 q132
                                    cases e132
                                    replace p132 := eq_true p132
                                    replace q132 := eq_true q132
                                    have p135 : 0 ≤ (x3_1 : Int) := of_decide_eq_true (by first | (with_reducible assumption) | assumption)
                                    have q135 : x3_1 < (l0.length : Int) := of_decide_eq_true (by first | (with_reducible assumption) | assumption)
                                    obtain ⟨ad135, e135, hx135_0⟩ := Kd.at_int HR0.out x3_1 p135 q135
                                    obtain rfl : ad132 = ad135 := (by injection e135)
                                    replace p135 := eq_true p135
                                    replace q135 := eq_true q135
                                    have p136 : 0 ≤ (x4_3 : Int) := of_decide_eq_true (by first | (with_reducible assumption) | assumption)
                                    have q136 : x4_3 < (l0.length : Int) := of_decide_eq_true (by first | (with_reducible assumption) | assumption)
                                    obtain ⟨ad136, e136, hx136_0⟩ := Kd.at_int HR0.out x4_3 p136 q136
                                    obtain rfl : ad132 = ad136 := (by injection e136)
                                    replace p136 := eq_true p136
                                    replace q136 := eq_true q136
                                    have p137 : 0 ≤ (x4_3 : Int) := of_decide_eq_true (by first | (with_reducible assumption) | assumption)
                                    have q137 : x4_3 < (l0.length : Int) := of_decide_eq_true (by first | (with_reducible assumption) | assumption)
                                    obtain ⟨ad137, e137, hx137_0⟩ := Kd.at_int HR0.out x4_3 p137 q137
                                    obtain rfl : ad132 = ad137 := (by injection e137)
                                    replace p137 := eq_true p137
                                    replace q137 := eq_true q137
                                    go_wp2
                                    go_meet
                                    case rel => exact ⟨_, (((rd l0 x4_3) == 4)), (by first | rfl | (simp; done) | (simp [*]; done)), H', ⟨by have := HK1.out; have := HJ2.out; have := HK3.out; first | omega | exact Nat.le_refl _⟩, by repeat (first | exact Drawn0.refl _ | apply Drawn0.step)⟩
                                · rw [if_neg c16] at H
                                  exact absurd H (by simp)
                              · rw [if_neg c15] at H
                                have c15b0 : ((rd l0 x3_1) == 4) = false := beq_eq_false_iff_ne.mpr c15
                                have c15b1 : ((rd l0 x3_1) != 4) = true := bne_iff_ne.mpr c15
                                have H' := Aside0.mk H
                                clear H
                                have p132 : 0 ≤ (x3_1 : Int) := of_decide_eq_true (by first | (with_reducible assumption) | assumption)
                                have q132 : x3_1 < (l0.length : Int) := of_decide_eq_true (by first | (with_reducible assumption) | assumption)
                                obtain ⟨ad132, e132, hx132_0⟩ := Kd.at_int HR0.out x3_1 p132 q132
                                cases e132
                                replace p132 := eq_true p132
                                replace q132 := eq_true q132
                                have p135 : 0 ≤ (x3_1 : Int) := of_decide_eq_true (by first | (with_reducible assumption) | assumption)
                                have q135 : x3_1 < (l0.length : Int) := of_decide_eq_true (by first | (with_reducible assumption) | assumption)
                                obtain ⟨ad135, e135, hx135_0⟩ := Kd.at_int HR0.out x3_1 p135 q135
                                obtain rfl : ad132 = ad135 := (by injection e135)
                                replace p135 := eq_true p135
                                replace q135 := eq_true q135
                                go_wp2
                                go_meet
                                case rel => exact ⟨_, (false), (by first | rfl | (simp; done) | (simp [*]; done)), H', ⟨by have := HK1.out; have := HJ2.out; have := HK3.out; first | omega | exact Nat.le_refl _⟩, by repeat (first | exact Drawn0.refl _ | apply Drawn0.step)⟩
                          · rw [if_neg c11] at H
                            exact absurd H (by simp)
                        · rw [if_neg c10] at H
                          exact absurd H (by simp)
                    case rest =>
                      clear HC8
                      try clear c1
                      try clear p1
                      try clear q1
                      try clear hx1
                      try clear c2
                      try clear c2b0
                      try clear p2
                      try clear c4
                      try clear c4b0
                      try clear c5
                      try clear c5b0
                      try clear c6
                      try clear c7
                      try clear c7b0
                      try clear c9
                      try clear c9b0
                      try clear c9b1
                      try clear c10
                      try clear c10b0
                      try clear c11
                      try clear c11b0
                      try clear c12
                      try clear c12b0
                      try clear c12b1
                      try clear c13
                      try clear c13b0
                      try clear p13
                      try clear q13
                      try clear hx13
                      try clear c14
                      try clear c14b0
                      try clear c14b1
                      try clear c15
                      try clear c15b0
                      try clear c15b1
                      try clear c16
                      try clear c16b0
                      try clear c17
                      try clear c17b0
                      try clear c17b1
                      try clear hx130_0
                      try clear hx131_0
                      try clear hx132_0
                      try clear hx133_0
                      try clear hx134_0
                      try clear hx135_0
                      try clear hx136_0
                      try clear hx137_0
                      try clear p1
                      try clear p130
                      try clear p131
                      try clear p132
                      try clear p133
                      try clear p134
                      try clear p135
                      try clear p136
                      try clear p137
                      try clear p2
                      try clear q1
                      try clear q130
                      try clear q131
                      try clear q132
                      try clear q133
                      try clear q134
                      try clear q135
                      try clear q136
                      try clear q137
                      obtain ⟨kq, x59_7, rfl, HA, HJ7, ⟨mc7, rfl⟩⟩ := hcut
                      cases kq with
                      | zero => exact absurd HA.out (by simp [paternosterref21_Fits.j3])
                      | succ kj7 =>
                        have H := HA.out
                        clear HA
                        simp only [paternosterref21_Fits.j3] at H
                        by_cases c18 : x59_7 = true
                        · subst c18
                          have H1 : (some false) = some r := by rw [if_pos rfl] at H; exact H
                          clear H
                          have H := H1
                          clear H1
                          obtain rfl := Option.some.inj H
                          go_wp2
                          go_ret
                          exact ⟨by first | rfl | (simp; done) | (simp [*]; done), by repeat (first | exact Drawn0.refl _ | apply Drawn0.step)⟩
                        · replace c18 := Bool.eq_false_iff.mpr c18
                          subst c18
                          have H1 : (if 0 ≤ x3_1 then (if x3_1 < (l0.length : Int) then (if (rd l0 x3_1) = 0 then (if 0 ≤ x4_3 then (if x4_3 < (l0.length : Int) then (if (rd l0 x4_3) = 0 then (paternosterref21_Fits.l1 kj7 l0 x3_1 (wrap64 (x4_3 + 1))) else (if (rd l0 x4_3) = 5 then (paternosterref21_Fits.l1 kj7 l0 x3_1 (wrap64 (x4_3 + 1))) else (some false))) else (none)) else (none)) else (paternosterref21_Fits.l1 kj7 l0 x3_1 (wrap64 (x4_3 + 1)))) else (none)) else (none)) = some r := by rw [if_neg (show ¬ (false = true) by decide)] at H; exact H
                          clear H
                          have H := H1
                          clear H1
                          by_cases c19 : 0 ≤ x3_1
                          · rw [if_pos c19] at H
                            have c19b0 : decide (0 ≤ x3_1) = true := decide_eq_true c19
                            clear c19
                            by_cases c20 : x3_1 < (l0.length : Int)
                            · rw [if_pos c20] at H
                              have c20b0 : decide (x3_1 < (l0.length : Int)) = true := decide_eq_true c20
                              clear c20
                              by_cases c21 : (rd l0 x3_1) = 0
                              · rw [if_pos c21] at H
                                have c21b0 : ((rd l0 x3_1) == 0) = true := beq_iff_eq.mpr c21
                                have c21b1 : ((rd l0 x3_1) != 0) = false := bne_eq_false_iff_eq.mpr c21
                                clear c21
                                by_cases c22 : 0 ≤ x4_3
                                · rw [if_pos c22] at H
                                  have c22b0 : decide (0 ≤ x4_3) = true := decide_eq_true c22
                                  clear c22
                                  by_cases c23 : x4_3 < (l0.length : Int)
                                  · rw [if_pos c23] at H
                                    have c23b0 : decide (x4_3 < (l0.length : Int)) = true := decide_eq_true c23
                                    clear c23
                                    by_cases c24 : (rd l0 x4_3) = 0
                                    · rw [if_pos c24] at H
                                      have c24b0 : ((rd l0 x4_3) == 0) = true := beq_iff_eq.mpr c24
                                      have c24b1 : ((rd l0 x4_3) != 0) = false := bne_eq_false_iff_eq.mpr c24
                                      clear c24
                                      have H' := Aside0.mk H
                                      clear H
                                      have p138 : 0 ≤ (x3_1 : Int) := of_decide_eq_true (by first | (with_reducible assumption) | assumption)
                                      have q138 : x3_1 < (l0.length : Int) := of_decide_eq_true (by first | (with_reducible assumption) | assumption)
                                      obtain ⟨ad138, e138, hx138_0⟩ := Kd.at_int HR0.out x3_1 p138 q138
                                      cases e138
                                      replace p138 := eq_true p138
                                      replace q138 := eq_true q138
                                      have p139 : 0 ≤ (x4_3 : Int) := of_decide_eq_true (by first | (with_reducible assumption) | assumption)
                                      have q139 : x4_3 < (l0.length : Int) := of_decide_eq_true (by first | (with_reducible assumption) | assumption)
                                      obtain ⟨ad139, e139, hx139_0⟩ := Kd.at_int HR0.out x4_3 p139 q139
                                      obtain rfl : ad138 = ad139 := (by injection e139)
                                      replace p139 := eq_true p139
                                      replace q139 := eq_true q139
                                      go_wp2
                                      go_roundg kj7
                                      case measure => have := HK1.out; have := HJ2.out; have := HK3.out; have := HJ7.out; omega
                                      case rel => exact ⟨(wrap64 (x4_3 + 1)), (by first | rfl | (simp; done) | (simp [*]; done)), H', ⟨by have := HK1.out; have := HJ2.out; have := HK3.out; have := HJ7.out; omega⟩, by repeat (first | exact Drawn0.refl _ | apply Drawn0.step)⟩
                                    · rw [if_neg c24] at H
                                      have c24b0 : ((rd l0 x4_3) == 0) = false := beq_eq_false_iff_ne.mpr c24
                                      have c24b1 : ((rd l0 x4_3) != 0) = true := bne_iff_ne.mpr c24
                                      by_cases c25 : (rd l0 x4_3) = 5
                                      · rw [if_pos c25] at H
                                        have c25b0 : ((rd l0 x4_3) == 5) = true := beq_iff_eq.mpr c25
                                        have c25b1 : ((rd l0 x4_3) != 5) = false := bne_eq_false_iff_eq.mpr c25
                                        clear c25
                                        have H' := Aside0.mk H
                                        clear H
                                        have p138 : 0 ≤ (x3_1 : Int) := of_decide_eq_true (by first | (with_reducible assumption) | assumption)
                                        have q138 : x3_1 < (l0.length : Int) := of_decide_eq_true (by first | (with_reducible assumption) | assumption)
                                        obtain ⟨ad138, e138, hx138_0⟩ := Kd.at_int HR0.out x3_1 p138 q138
                                        cases e138
                                        replace p138 := eq_true p138
                                        replace q138 := eq_true q138
                                        have p139 : 0 ≤ (x4_3 : Int) := of_decide_eq_true (by first | (with_reducible assumption) | assumption)
                                        have q139 : x4_3 < (l0.length : Int) := of_decide_eq_true (by first | (with_reducible assumption) | assumption)
                                        obtain ⟨ad139, e139, hx139_0⟩ := Kd.at_int HR0.out x4_3 p139 q139
                                        obtain rfl : ad138 = ad139 := (by injection e139)
                                        replace p139 := eq_true p139
                                        replace q139 := eq_true q139
                                        have p140 : 0 ≤ (x4_3 : Int) := of_decide_eq_true (by first | (with_reducible assumption) | assumption)
                                        have q140 : x4_3 < (l0.length : Int) := of_decide_eq_true (by first | (with_reducible assumption) | assumption)
                                        obtain ⟨ad140, e140, hx140_0⟩ := Kd.at_int HR0.out x4_3 p140 q140
                                        obtain rfl : ad138 = ad140 := (by injection e140)
                                        replace p140 := eq_true p140
                                        replace q140 := eq_true q140
                                        go_wp2
                                        go_roundg kj7
                                        case measure => have := HK1.out; have := HJ2.out; have := HK3.out; have := HJ7.out; omega
                                        case rel => exact ⟨(wrap64 (x4_3 + 1)), (by first | rfl | (simp; done) | (simp [*]; done)), H', ⟨by have := HK1.out; have := HJ2.out; have := HK3.out; have := HJ7.out; omega⟩, by repeat (first | exact Drawn0.refl _ | apply Drawn0.step)⟩
                                      · rw [if_neg c25] at H
                                        have c25b0 : ((rd l0 x4_3) == 5) = false := beq_eq_false_iff_ne.mpr c25
                                        have c25b1 : ((rd l0 x4_3) != 5) = true := bne_iff_ne.mpr c25
                                        obtain rfl := Option.some.inj H
                                        have p138 : 0 ≤ (x3_1 : Int) := of_decide_eq_true (by first | (with_reducible assumption) | assumption)
                                        have q138 : x3_1 < (l0.length : Int) := of_decide_eq_true (by first | (with_reducible assumption) | assumption)
                                        obtain ⟨ad138, e138, hx138_0⟩ := Kd.at_int HR0.out x3_1 p138 q138
                                        cases e138
                                        replace p138 := eq_true p138
                                        replace q138 := eq_true q138
                                        have p139 : 0 ≤ (x4_3 : Int) := of_decide_eq_true (by first | (with_reducible assumption) | assumption)
                                        have q139 : x4_3 < (l0.length : Int) := of_decide_eq_true (by first | (with_reducible assumption) | assumption)
                                        obtain ⟨ad139, e139, hx139_0⟩ := Kd.at_int HR0.out x4_3 p139 q139
                                        obtain rfl : ad138 = ad139 := (by injection e139)
                                        replace p139 := eq_true p139
                                        replace q139 := eq_true q139
                                        have p140 : 0 ≤ (x4_3 : Int) := of_decide_eq_true (by first | (with_reducible assumption) | assumption)
                                        have q140 : x4_3 < (l0.length : Int) := of_decide_eq_true (by first | (with_reducible assumption) | assumption)
                                        obtain ⟨ad140, e140, hx140_0⟩ := Kd.at_int HR0.out x4_3 p140 q140
                                        obtain rfl : ad138 = ad140 := (by injection e140)
                                        replace p140 := eq_true p140
                                        replace q140 := eq_true q140
                                        go_wp2
                                        go_ret
                                        exact ⟨by first | rfl | (simp; done) | (simp [*]; done), by repeat (first | exact Drawn0.refl _ | apply Drawn0.step)⟩
                                  · rw [if_neg c23] at H
                                    exact absurd H (by simp)
                                · rw [if_neg c22] at H
                                  exact absurd H (by simp)
                              · rw [if_neg c21] at H
                                have c21b0 : ((rd l0 x3_1) == 0) = false := beq_eq_false_iff_ne.mpr c21
                                have c21b1 : ((rd l0 x3_1) != 0) = true := bne_iff_ne.mpr c21
                                have H' := Aside0.mk H
                                clear H
                                have p138 : 0 ≤ (x3_1 : Int) := of_decide_eq_true (by first | (with_reducible assumption) | assumption)
                                have q138 : x3_1 < (l0.length : Int) := of_decide_eq_true (by first | (with_reducible assumption) | assumption)
                                obtain ⟨ad138, e138, hx138_0⟩ := Kd.at_int HR0.out x3_1 p138 q138
                                cases e138
                                replace p138 := eq_true p138
                                replace q138 := eq_true q138
                                go_wp2
                                go_roundg kj7
                                case measure => have := HK1.out; have := HJ2.out; have := HK3.out; have := HJ7.out; omega
                                case rel => exact ⟨(wrap64 (x4_3 + 1)), (by first | rfl | (simp; done) | (simp [*]; done)), H', ⟨by have := HK1.out; have := HJ2.out; have := HK3.out; have := HJ7.out; omega⟩, by repeat (first | exact Drawn0.refl _ | apply Drawn0.step)⟩
                            · rw [if_neg c20] at H
                              exact absurd H (by simp)
                          · rw [if_neg c19] at H
                            exact absurd H (by simp)
                  · rw [if_neg c7] at H
                    have c7b0 : decide (x4_3 < (l0.length : Int)) = false := decide_eq_false c7
                    clear c7
                    have H' := Aside0.mk H
                    clear H
                    go_wp2
                    go_roundg k3
                    case measure => have := HK1.out; have := HJ2.out; have := HK3.out; omega
                    case rel => exact ⟨(wrap64 (x3_1 + 1)), (by first | rfl | (simp; done) | (simp [*]; done)), H', ⟨by have := HK1.out; have := HJ2.out; have := HK3.out; omega⟩, by repeat (first | exact Drawn0.refl _ | apply Drawn0.step)⟩
      · rw [if_neg c2] at H
        have c2b0 : decide (x3_1 < (l0.length : Int)) = false := decide_eq_false c2
        clear c2
        obtain rfl := Option.some.inj H
        go_wp2
        go_ret
        exact ⟨by first | rfl | (simp; done) | (simp [*]; done), by repeat (first | exact Drawn0.refl _ | apply Drawn0.step)⟩

end Go.Proofs.YtpnofbiflaahhaaDoor.X
