-- Written by a program of this session (wip/xprint/xprint.py runs the kit's print with hand-proved externs).
import Derived.Test.YtbaklgemdljmeaaDoorLaid
import Derived.Test.YtbaklgemdljmeaaDoorXx0
import Derived.Test.YtbaklgemdljmeaaDoorXx2
import Derived.Test.YtbaklgemdljmeaaDoorXx4
import Derived.Test.YtbaklgemdljmeaaDoorXx5
import Derived.Test.YtbaklgemdljmeaaDoorTurnStep
namespace Go.Proofs.YtbaklgemdljmeaaDoor.X
open Go.RowKit Go.Proofs.YtbaklgemdljmeaaDoorW.PrintWords Go.Proofs.YtbaklgemdljmeaaDoorW.PrintLast Go.Proofs.YtbaklgemdljmeaaDoorW.PrintMore
attribute [local go_sem] max2_int min2_int max_two min_two max_three min_three max_four min_four   -- for this text's walks alone
set_option linter.unusedVariables false
set_option linter.unusedSimpArgs false

/-! ### paternosterlaw20_TurnHand: function 6 -/
mutual
def paternosterlaw20_TurnHand.j0 : Nat → Int → List Bool → Int → Int → Bool → Option (Bool)
  | 0, _, _, _, _, _ => none
  | k + 1, x0, x3, x10, x11, x34 => if x34 = true then (some true) else ((turn_None.f).bind fun bt190 => ((turn_Turn_Pick.f bt190.1 bt190.2 x10 x0 false x11).bind fun bt192 => (if bt192.2.2 = true then (paternosterlaw20_TurnHand.j1 k x0 x3 x10 x11 (bt192.2.1 != x11) bt192.1 bt192.2.1) else (paternosterlaw20_TurnHand.j1 k x0 x3 x10 x11 true bt192.1 bt192.2.1))))
def paternosterlaw20_TurnHand.j1 : Nat → Int → List Bool → Int → Int → Bool → Int → Int → Option (Bool)
  | 0, _, _, _, _, _, _, _ => none
  | k + 1, x0, x3, x10, x11, x50, x196000, x196001 => if x50 = true then (some false) else (paternosterlaw20_TurnHand.l0 k x0 x3 x10 x11 0 0 x196000 x196001)
def paternosterlaw20_TurnHand.l0 : Nat → Int → List Bool → Int → Int → Int → Int → Int → Int → Option (Bool)
  | 0, _, _, _, _, _, _, _, _ => none
  | k + 1, x0, x3, x10, x11, x14, x15, x196000, x196001 => if x15 < (x3.length : Int) then (if 0 ≤ x15 then ((turn_Turn_Step.f x196000 x196001 x0 (rdOf false x3 x15) x11).bind fun bt197 => (if rdOf false x3 x15 = true then (paternosterlaw20_TurnHand.j3 k x0 x3 x10 x11 x14 x15 bt197.1 bt197.2) else (paternosterlaw20_TurnHand.j3 k x0 x3 x10 x11 (wrap64 (x14 + 1)) x15 bt197.1 bt197.2))) else (none)) else (some true)
def paternosterlaw20_TurnHand.j3 : Nat → Int → List Bool → Int → Int → Int → Int → Int → Int → Option (Bool)
  | 0, _, _, _, _, _, _, _, _ => none
  | k + 1, x0, x3, x10, x11, x14, x15, x196000, x196001 => if x14 < x11 then (if x196000 = x10 then (paternosterlaw20_TurnHand.j4 k x0 x3 x10 x11 x14 x15 (x196001 != (wrap64 (x11 - x14))) x196000 x196001) else (paternosterlaw20_TurnHand.j4 k x0 x3 x10 x11 x14 x15 true x196000 x196001)) else (paternosterlaw20_TurnHand.j4 k x0 x3 x10 x11 x14 x15 false x196000 x196001)
def paternosterlaw20_TurnHand.j4 : Nat → Int → List Bool → Int → Int → Int → Int → Bool → Int → Int → Option (Bool)
  | 0, _, _, _, _, _, _, _, _, _ => none
  | k + 1, x0, x3, x10, x11, x14, x15, x88, x196000, x196001 => if x88 = true then (some false) else (if x14 ≥ x11 then ((order_Has.f x0 x196000).bind fun t200 => (if t200 = true then (if x196000 = x10 then ((order_Without.f x0 x10).bind fun t201 => (some (t201 == 0))) else (some true)) else (some false))) else (paternosterlaw20_TurnHand.l0 k x0 x3 x10 x11 x14 (wrap64 (x15 + 1)) x196000 x196001))
end
def paternosterlaw20_TurnHand.f (k : Nat) (a0 : Int) (a1 : Int) (a2 : Int) (l3 : List Bool) : Option (Bool) := (paternosterlaw20_awake.f).bind fun t188 => (if t188 = true then (if (l3.length : Int) > 100 then (paternosterlaw20_TurnHand.j0 k a0 l3 (wrap64 (Int.tmod a1 64)) (wrap64 ((wrap64 (Int.tmod a2 20)) + 1)) true) else ((order_Has.f a0 (wrap64 (Int.tmod a1 64))).bind fun t189 => (paternosterlaw20_TurnHand.j0 k a0 l3 (wrap64 (Int.tmod a1 64)) (wrap64 ((wrap64 (Int.tmod a2 20)) + 1)) (!t189)))) else (some false))
theorem paternosterlaw20_TurnHand.mono_l : ∀ k, (∀ y0 y1 y2 y3 y4, LeO (paternosterlaw20_TurnHand.j0 k y0 y1 y2 y3 y4) (paternosterlaw20_TurnHand.j0 (k + 1) y0 y1 y2 y3 y4)) ∧ (∀ y0 y1 y2 y3 y4 y5 y6, LeO (paternosterlaw20_TurnHand.j1 k y0 y1 y2 y3 y4 y5 y6) (paternosterlaw20_TurnHand.j1 (k + 1) y0 y1 y2 y3 y4 y5 y6)) ∧ (∀ y0 y1 y2 y3 y4 y5 y6 y7, LeO (paternosterlaw20_TurnHand.l0 k y0 y1 y2 y3 y4 y5 y6 y7) (paternosterlaw20_TurnHand.l0 (k + 1) y0 y1 y2 y3 y4 y5 y6 y7)) ∧ (∀ y0 y1 y2 y3 y4 y5 y6 y7, LeO (paternosterlaw20_TurnHand.j3 k y0 y1 y2 y3 y4 y5 y6 y7) (paternosterlaw20_TurnHand.j3 (k + 1) y0 y1 y2 y3 y4 y5 y6 y7)) ∧ (∀ y0 y1 y2 y3 y4 y5 y6 y7 y8, LeO (paternosterlaw20_TurnHand.j4 k y0 y1 y2 y3 y4 y5 y6 y7 y8) (paternosterlaw20_TurnHand.j4 (k + 1) y0 y1 y2 y3 y4 y5 y6 y7 y8))
  | 0 => ⟨fun _ _ _ _ _ r h => by simp [paternosterlaw20_TurnHand.j0] at h, fun _ _ _ _ _ _ _ r h => by simp [paternosterlaw20_TurnHand.j1] at h, fun _ _ _ _ _ _ _ _ r h => by simp [paternosterlaw20_TurnHand.l0] at h, fun _ _ _ _ _ _ _ _ r h => by simp [paternosterlaw20_TurnHand.j3] at h, fun _ _ _ _ _ _ _ _ _ r h => by simp [paternosterlaw20_TurnHand.j4] at h⟩
  | k + 1 => by
    obtain ⟨ih0, ih1, ih2, ih3, ih4⟩ := paternosterlaw20_TurnHand.mono_l k
    refine ⟨?_, ?_, ?_, ?_, ?_⟩
    · intro y0 y1 y2 y3 y4
      unfold paternosterlaw20_TurnHand.j0
      repeat' first
      | (with_reducible exact ih0 _ _ _ _ _)
      | (with_reducible exact ih1 _ _ _ _ _ _ _)
      | (with_reducible exact ih2 _ _ _ _ _ _ _ _)
      | (with_reducible exact ih3 _ _ _ _ _ _ _ _)
      | (with_reducible exact ih4 _ _ _ _ _ _ _ _ _)
      | (with_reducible exact LeO.refl _)
      | (with_reducible exact LeO.none _)
      | (with_reducible refine LeO.ite ?_ ?_)
      | (with_reducible refine LeO.bind ?_ (fun _ => ?_))
      | exact ih0 _ _ _ _ _
      | exact ih1 _ _ _ _ _ _ _
      | exact ih2 _ _ _ _ _ _ _ _
      | exact ih3 _ _ _ _ _ _ _ _
      | exact ih4 _ _ _ _ _ _ _ _ _
      | exact LeO.none _
      | refine LeO.ite ?_ ?_
      | refine LeO.bind ?_ (fun _ => ?_)
    · intro y0 y1 y2 y3 y4 y5 y6
      unfold paternosterlaw20_TurnHand.j1
      repeat' first
      | (with_reducible exact ih0 _ _ _ _ _)
      | (with_reducible exact ih1 _ _ _ _ _ _ _)
      | (with_reducible exact ih2 _ _ _ _ _ _ _ _)
      | (with_reducible exact ih3 _ _ _ _ _ _ _ _)
      | (with_reducible exact ih4 _ _ _ _ _ _ _ _ _)
      | (with_reducible exact LeO.refl _)
      | (with_reducible exact LeO.none _)
      | (with_reducible refine LeO.ite ?_ ?_)
      | (with_reducible refine LeO.bind ?_ (fun _ => ?_))
      | exact ih0 _ _ _ _ _
      | exact ih1 _ _ _ _ _ _ _
      | exact ih2 _ _ _ _ _ _ _ _
      | exact ih3 _ _ _ _ _ _ _ _
      | exact ih4 _ _ _ _ _ _ _ _ _
      | exact LeO.none _
      | refine LeO.ite ?_ ?_
      | refine LeO.bind ?_ (fun _ => ?_)
    · intro y0 y1 y2 y3 y4 y5 y6 y7
      unfold paternosterlaw20_TurnHand.l0
      repeat' first
      | (with_reducible exact ih0 _ _ _ _ _)
      | (with_reducible exact ih1 _ _ _ _ _ _ _)
      | (with_reducible exact ih2 _ _ _ _ _ _ _ _)
      | (with_reducible exact ih3 _ _ _ _ _ _ _ _)
      | (with_reducible exact ih4 _ _ _ _ _ _ _ _ _)
      | (with_reducible exact LeO.refl _)
      | (with_reducible exact LeO.none _)
      | (with_reducible refine LeO.ite ?_ ?_)
      | (with_reducible refine LeO.bind ?_ (fun _ => ?_))
      | exact ih0 _ _ _ _ _
      | exact ih1 _ _ _ _ _ _ _
      | exact ih2 _ _ _ _ _ _ _ _
      | exact ih3 _ _ _ _ _ _ _ _
      | exact ih4 _ _ _ _ _ _ _ _ _
      | exact LeO.none _
      | refine LeO.ite ?_ ?_
      | refine LeO.bind ?_ (fun _ => ?_)
    · intro y0 y1 y2 y3 y4 y5 y6 y7
      unfold paternosterlaw20_TurnHand.j3
      repeat' first
      | (with_reducible exact ih0 _ _ _ _ _)
      | (with_reducible exact ih1 _ _ _ _ _ _ _)
      | (with_reducible exact ih2 _ _ _ _ _ _ _ _)
      | (with_reducible exact ih3 _ _ _ _ _ _ _ _)
      | (with_reducible exact ih4 _ _ _ _ _ _ _ _ _)
      | (with_reducible exact LeO.refl _)
      | (with_reducible exact LeO.none _)
      | (with_reducible refine LeO.ite ?_ ?_)
      | (with_reducible refine LeO.bind ?_ (fun _ => ?_))
      | exact ih0 _ _ _ _ _
      | exact ih1 _ _ _ _ _ _ _
      | exact ih2 _ _ _ _ _ _ _ _
      | exact ih3 _ _ _ _ _ _ _ _
      | exact ih4 _ _ _ _ _ _ _ _ _
      | exact LeO.none _
      | refine LeO.ite ?_ ?_
      | refine LeO.bind ?_ (fun _ => ?_)
    · intro y0 y1 y2 y3 y4 y5 y6 y7 y8
      unfold paternosterlaw20_TurnHand.j4
      repeat' first
      | (with_reducible exact ih0 _ _ _ _ _)
      | (with_reducible exact ih1 _ _ _ _ _ _ _)
      | (with_reducible exact ih2 _ _ _ _ _ _ _ _)
      | (with_reducible exact ih3 _ _ _ _ _ _ _ _)
      | (with_reducible exact ih4 _ _ _ _ _ _ _ _ _)
      | (with_reducible exact LeO.refl _)
      | (with_reducible exact LeO.none _)
      | (with_reducible refine LeO.ite ?_ ?_)
      | (with_reducible refine LeO.bind ?_ (fun _ => ?_))
      | exact ih0 _ _ _ _ _
      | exact ih1 _ _ _ _ _ _ _
      | exact ih2 _ _ _ _ _ _ _ _
      | exact ih3 _ _ _ _ _ _ _ _
      | exact ih4 _ _ _ _ _ _ _ _ _
      | exact LeO.none _
      | refine LeO.ite ?_ ?_
      | refine LeO.bind ?_ (fun _ => ?_)
theorem paternosterlaw20_TurnHand.mono : ∀ a0 a1 a2 a3 k, LeO (paternosterlaw20_TurnHand.f k a0 a1 a2 a3) (paternosterlaw20_TurnHand.f (k + 1) a0 a1 a2 a3) := by
  intro a0 a1 a2 a3 k
  obtain ⟨ih0, ih1, ih2, ih3, ih4⟩ := paternosterlaw20_TurnHand.mono_l k
  unfold paternosterlaw20_TurnHand.f
  repeat' first
      | (with_reducible exact ih0 _ _ _ _ _)
      | (with_reducible exact ih1 _ _ _ _ _ _ _)
      | (with_reducible exact ih2 _ _ _ _ _ _ _ _)
      | (with_reducible exact ih3 _ _ _ _ _ _ _ _)
      | (with_reducible exact ih4 _ _ _ _ _ _ _ _ _)
      | (with_reducible exact LeO.refl _)
      | (with_reducible exact LeO.none _)
      | (with_reducible refine LeO.ite ?_ ?_)
      | (with_reducible refine LeO.bind ?_ (fun _ => ?_))
      | exact ih0 _ _ _ _ _
      | exact ih1 _ _ _ _ _ _ _
      | exact ih2 _ _ _ _ _ _ _ _
      | exact ih3 _ _ _ _ _ _ _ _
      | exact ih4 _ _ _ _ _ _ _ _ _
      | exact LeO.none _
      | refine LeO.ite ?_ ?_
      | refine LeO.bind ?_ (fun _ => ?_)
def paternosterlaw20_TurnHand.T15 : Bool × List (List Nat × List Nat) := (true, [([], []), ([], []), ([], []), ([], []), ([2, 3], [2, 3]), ([4], [4]), ([], []), ([0, 1, 5, 6], [0, 1, 5, 6]), ([7, 7, 0, 1, 2, 3, 4, 5, 6, 7], [7])])
def paternosterlaw20_TurnHand.B15 : List Nat := [0, 0, 0, 0, 12, 28, 0, 127, 255]
theorem paternosterlaw20_TurnHand.tab15 : rtab .any (opsOf Tryd.f6 15) = paternosterlaw20_TurnHand.T15 := by kernel_rfl
theorem paternosterlaw20_TurnHand.bits15 : waitsOk paternosterlaw20_TurnHand.T15.2 paternosterlaw20_TurnHand.B15 = true := by kernel_rfl
set_option maxHeartbeats 8000000 in
set_option maxRecDepth 100000 in
theorem paternosterlaw20_TurnHand.calls (k : Nat) (a0 : Int) (a1 : Int) (a2 : Int) (A3 : Option Addr) (c3 : Nat) (l3 : List Bool) (r : Bool) (w : World) (hr3 : Kd.C Kd.bool w A3 l3.length l3) (hc3 : l3.length ≤ c3) (h : paternosterlaw20_TurnHand.f k a0 a1 a2 l3 = some r) (LA0 : Laid w) :
    Calls Tryd.prog 6 #[.int .u64 a0, .int .u8 a1, .int .u8 a2, .slice A3 l3.length c3] w fun e w' => e = .returned (.bool r) ∧ Below w.heap.size w w' := by
  have LA := Aside0.mk LA0
  clear LA0
  have hu23 := Tryd.underlying23
  have HR3 := Aside0.mk hr3
  have HC3 := Aside0.mk hc3
  clear hr3 hc3
  have HB := Aside0.mk (Below.refl w.heap.size w)
  have H : ((paternosterlaw20_awake.f).bind fun t188 => (if t188 = true then (if (l3.length : Int) > 100 then (paternosterlaw20_TurnHand.j0 k a0 l3 (wrap64 (Int.tmod a1 64)) (wrap64 ((wrap64 (Int.tmod a2 20)) + 1)) true) else ((order_Has.f a0 (wrap64 (Int.tmod a1 64))).bind fun t189 => (paternosterlaw20_TurnHand.j0 k a0 l3 (wrap64 (Int.tmod a1 64)) (wrap64 ((wrap64 (Int.tmod a2 20)) + 1)) (!t189)))) else (some false))) = some r := h
  clear h
  replace H := Option.bind_eq_some_iff.mp H
  obtain ⟨t188, A50, H⟩ := H
  replace H : (if t188 = true then (if (l3.length : Int) > 100 then (paternosterlaw20_TurnHand.j0 k a0 l3 (wrap64 (Int.tmod a1 64)) (wrap64 ((wrap64 (Int.tmod a2 20)) + 1)) true) else ((order_Has.f a0 (wrap64 (Int.tmod a1 64))).bind fun t189 => (paternosterlaw20_TurnHand.j0 k a0 l3 (wrap64 (Int.tmod a1 64)) (wrap64 ((wrap64 (Int.tmod a2 20)) + 1)) (!t189)))) else (some false)) = some r := H
  have A5 := Aside0.mk A50
  clear A50
  by_cases c6 : t188 = true
  · subst c6
    have H1 : (if (l3.length : Int) > 100 then (paternosterlaw20_TurnHand.j0 k a0 l3 (wrap64 (Int.tmod a1 64)) (wrap64 ((wrap64 (Int.tmod a2 20)) + 1)) true) else ((order_Has.f a0 (wrap64 (Int.tmod a1 64))).bind fun t189 => (paternosterlaw20_TurnHand.j0 k a0 l3 (wrap64 (Int.tmod a1 64)) (wrap64 ((wrap64 (Int.tmod a2 20)) + 1)) (!t189)))) = some r := by rw [if_pos rfl] at H; exact H
    clear H
    have H := H1
    clear H1
    have HC7 := Aside0.mk H
    clear H
    go_enter Tryd.func6, Tryd.ntmps6
    go_upto_region 6 with (first | ((with_reducible refine gate_callee (f := 7) rfl ?_); refine goesL_ (some 16) rfl rfl Tryd.func7 (by kernel_rfl) rfl #[] rfl (by (try simp only [List.map_toArray, List.map_cons, List.map_nil]); first | done | rfl | (simp only [List.length_drop, List.length_take]; rfl)) ?_; (with_reducible refine (paternosterlaw20_awake.calls  true _ A5.out ?sideL).mono ?_); (case sideL => exact laid_below LA.out (by repeat (first | (with_reducible first | exact HB.out | apply below_alloc | apply pw_below_drewN | apply below_drew1) | exact HB.out))); rintro e w8 ⟨rfl, hb⟩; refine ⟨_, rfl, ?_⟩; have n0_ := Aside0.mk (below_step (by repeat (first | (with_reducible first | exact HB.out | apply below_alloc | apply pw_below_drewN | apply below_drew1) | exact HB.out)) hb); clear HB; have HB := n0_; clear n0_; (try clear hb); (try clear hb2); (try clear hk); (try clear hi)))
    (try simp only [Act.put, List.setIfInBounds_toArray, List.set_cons_zero, List.set_cons_succ])
    go_cut [34] (fun v34 wc => ∃ (kq : Nat) (x34_6 : Bool), v34 = .bool x34_6 ∧ Aside0 (paternosterlaw20_TurnHand.j0 kq a0 l3 (wrap64 (Int.tmod a1 64)) (wrap64 ((wrap64 (Int.tmod a2 20)) + 1)) x34_6 = some r) ∧ Aside0 (kq ≤ k) ∧ Aside0 (Below w.heap.size w wc))
    case first =>
      have H := HC7.out
      clear HC7
      by_cases c9 : (l3.length : Int) > 100
      · rw [if_pos c9] at H
        have c9b0 : decide (100 < (l3.length : Int)) = true := decide_eq_true c9
        have c9b1 : decide (100 < l3.length) = true := decide_eq_true (by omega)
        clear c9
        (first | rw [c9b0] | (simp only [i64_w, i32_w]; rw [c9b0]) | skip)
        have H' := Aside0.mk H
        clear H
        go_wp2
        go_meet
        case rel => exact ⟨_, (true), (by first | rfl | (simp; done) | (simp [*]; done)), H', ⟨by first | omega | exact Nat.le_refl _⟩, ⟨by repeat (first | (with_reducible first | exact HB.out | apply below_alloc | apply pw_below_drewN | apply below_drew1) | exact HB.out)⟩⟩
      · rw [if_neg c9] at H
        have c9b0 : decide (100 < (l3.length : Int)) = false := decide_eq_false c9
        have c9b1 : decide (100 < l3.length) = false := decide_eq_false (by omega)
        clear c9
        (first | rw [c9b0] | (simp only [i64_w, i32_w]; rw [c9b0]) | skip)
        replace H := Option.bind_eq_some_iff.mp H
        obtain ⟨t189, A100, H⟩ := H
        replace H : (paternosterlaw20_TurnHand.j0 k a0 l3 (wrap64 (Int.tmod a1 64)) (wrap64 ((wrap64 (Int.tmod a2 20)) + 1)) (!t189)) = some r := H
        have A10 := Aside0.mk A100
        clear A100
        have H' := Aside0.mk H
        clear H
        go_wp2_with (first | (go_at_call 13; (with_reducible refine (order_Has.calls a0 (wrap64 (Int.tmod a1 64)) t189 _ A10.out).mono ?_); rintro e w' ⟨rfl, ⟨nd, rfl⟩⟩))
        go_meet
        case rel => exact ⟨_, (!t189), (by first | rfl | (simp; done) | (simp [*]; done)), H', ⟨by first | omega | exact Nat.le_refl _⟩, ⟨by repeat (first | (with_reducible first | exact HB.out | apply below_alloc | apply pw_below_drewN | apply below_drew1) | exact HB.out)⟩⟩
    case rest =>
      clear HC7
      try clear p2
      try clear c3
      try clear c6
      try clear p6
      try clear c7
      try clear c9
      try clear c9b0
      try clear c9b1
      obtain ⟨kq, x34_6, rfl, HA, HJ6, HB⟩ := hcut
      cases kq with
      | zero => exact absurd HA.out (by simp [paternosterlaw20_TurnHand.j0])
      | succ kj6 =>
        have H := HA.out
        clear HA
        simp only [paternosterlaw20_TurnHand.j0] at H
        by_cases c11 : x34_6 = true
        · subst c11
          have H1 : (some true) = some r := by rw [if_pos rfl] at H; exact H
          clear H
          have H := H1
          clear H1
          obtain rfl := Option.some.inj H
          go_wp2
          go_ret
          exact ⟨by first | rfl | (simp [errW_none, errW_some] <;> rfl) | (simp [*, errW_none, errW_some] <;> rfl), by repeat (first | (with_reducible first | exact HB.out | apply below_alloc | apply pw_below_drewN | apply below_drew1) | exact HB.out)⟩
        · replace c11 := Bool.eq_false_iff.mpr c11
          subst c11
          have H1 : ((turn_None.f).bind fun bt190 => ((turn_Turn_Pick.f bt190.1 bt190.2 (wrap64 (Int.tmod a1 64)) a0 false (wrap64 ((wrap64 (Int.tmod a2 20)) + 1))).bind fun bt192 => (if bt192.2.2 = true then (paternosterlaw20_TurnHand.j1 kj6 a0 l3 (wrap64 (Int.tmod a1 64)) (wrap64 ((wrap64 (Int.tmod a2 20)) + 1)) (bt192.2.1 != (wrap64 ((wrap64 (Int.tmod a2 20)) + 1))) bt192.1 bt192.2.1) else (paternosterlaw20_TurnHand.j1 kj6 a0 l3 (wrap64 (Int.tmod a1 64)) (wrap64 ((wrap64 (Int.tmod a2 20)) + 1)) true bt192.1 bt192.2.1)))) = some r := by rw [if_neg (show ¬ (false = true) by decide)] at H; exact H
          clear H
          have H := H1
          clear H1
          replace H := Option.bind_eq_some_iff.mp H
          obtain ⟨⟨t190, t191⟩, A120, H⟩ := H
          replace H : ((turn_Turn_Pick.f t190 t191 (wrap64 (Int.tmod a1 64)) a0 false (wrap64 ((wrap64 (Int.tmod a2 20)) + 1))).bind fun bt192 => (if bt192.2.2 = true then (paternosterlaw20_TurnHand.j1 kj6 a0 l3 (wrap64 (Int.tmod a1 64)) (wrap64 ((wrap64 (Int.tmod a2 20)) + 1)) (bt192.2.1 != (wrap64 ((wrap64 (Int.tmod a2 20)) + 1))) bt192.1 bt192.2.1) else (paternosterlaw20_TurnHand.j1 kj6 a0 l3 (wrap64 (Int.tmod a1 64)) (wrap64 ((wrap64 (Int.tmod a2 20)) + 1)) true bt192.1 bt192.2.1))) = some r := H
          have A12 := Aside0.mk A120
          clear A120
          replace H := Option.bind_eq_some_iff.mp H
          obtain ⟨⟨t192, t193, t194⟩, A130, H⟩ := H
          replace H : (if t194 = true then (paternosterlaw20_TurnHand.j1 kj6 a0 l3 (wrap64 (Int.tmod a1 64)) (wrap64 ((wrap64 (Int.tmod a2 20)) + 1)) (t193 != (wrap64 ((wrap64 (Int.tmod a2 20)) + 1))) t192 t193) else (paternosterlaw20_TurnHand.j1 kj6 a0 l3 (wrap64 (Int.tmod a1 64)) (wrap64 ((wrap64 (Int.tmod a2 20)) + 1)) true t192 t193)) = some r := H
          have A13 := Aside0.mk A130
          clear A130
          have HC14 := Aside0.mk H
          clear H
          go_upto_region 9 with (first | ((with_reducible refine gate_callee (f := 12) rfl ?_); refine goesL_ (some 36) rfl rfl Tryd.func12 (by kernel_rfl) rfl #[] rfl (by (try simp only [List.map_toArray, List.map_cons, List.map_nil]); first | done | rfl | (simp only [List.length_drop, List.length_take]; rfl)) ?_; (with_reducible refine (turn_None.calls  t190 t191 _ A12.out).mono ?_); rintro e w15 ⟨rfl, hb⟩; refine ⟨_, rfl, ?_⟩; have n0_ := Aside0.mk (below_step (by repeat (first | (with_reducible first | exact HB.out | apply below_alloc | apply pw_below_drewN | apply below_drew1) | exact HB.out)) hb); clear HB; have HB := n0_; clear n0_; (try clear hb); (try clear hb2); (try clear hk); (try clear hi)) | ((with_reducible refine gate_callee (f := 10) rfl ?_); refine goesL_ (some 40) rfl rfl Tryd.func10 (by kernel_rfl) rfl #[.agg #[.int .i64 t190, .int .i64 t191], .int .i64 (wrap64 (Int.tmod a1 64)), .int .u64 a0, .bool false, .int .i64 (wrap64 ((wrap64 (Int.tmod a2 20)) + 1))] rfl (by (try simp only [List.map_toArray, List.map_cons, List.map_nil]); first | done | rfl | (simp only [List.length_drop, List.length_take]; rfl)) ?_; (with_reducible refine (turn_Turn_Pick.calls t190 t191 (wrap64 (Int.tmod a1 64)) a0 false (wrap64 ((wrap64 (Int.tmod a2 20)) + 1)) t192 t193 t194 _ A13.out).mono ?_); rintro e w16 ⟨rfl, hb⟩; refine ⟨_, rfl, ?_⟩; have n0_ := Aside0.mk (below_step (by repeat (first | (with_reducible first | exact HB.out | apply below_alloc | apply pw_below_drewN | apply below_drew1) | exact HB.out)) hb); clear HB; have HB := n0_; clear n0_; (try clear hb); (try clear hb2); (try clear hk); (try clear hi)) | ((with_reducible refine gate_dst (N := 12) rfl ?_); refine box_event ?hg (N := 12) ?hd (cs := #[.int .i64 0, .int .i64 0]) (t := 23) ?hr ?_; (case hd => rfl); (case hg => rfl); (case hr => first | (go_simp; done) | (go_simp; rfl)); intro gb195 hg w17 hbox hb; have n0_ := Aside0.mk (below_step (by repeat (first | (with_reducible first | exact HB.out | apply below_alloc | apply pw_below_drewN | apply below_drew1) | exact HB.out)) hb); have n1_ := Aside0.mk (hbox); have n2_ := Aside0.mk ((by rw [hg]; exact (below_size (by repeat (first | (with_reducible first | exact HB.out | apply below_alloc | apply pw_below_drewN | apply below_drew1) | exact HB.out))) : w.heap.size ≤ gb195)); have n3_ := Aside0.mk ((by rw [hg]; exact (below_size (by repeat (first | (with_reducible first | exact HB.out | apply below_alloc | apply pw_below_drewN | apply below_drew1) | exact HB.out))) : w.heap.size ≤ gb195)); clear HB; have HB := n0_; have BK195 := n1_; have GW195 := n2_; have GE195 := n3_; clear n0_ n1_ n2_ n3_; clear hb hbox hg; have hcz18_0 : w17.cell? ⟨gb195, 0, none⟩ = some (.int .i64 0) := (blk_cell BK195.out 0).trans rfl; have hcz18_1 : w17.cell? ⟨gb195, 1, none⟩ = some (.int .i64 0) := (blk_cell BK195.out 1).trans rfl; have hfz18_0 := blk_frozen BK195.out 0; have hfz18_1 := blk_frozen BK195.out 1))
          (try simp only [Act.put, List.setIfInBounds_toArray, List.set_cons_zero, List.set_cons_succ])
          go_cut [50] (fun v50 wc => ∃ (kq : Nat) (x50_13 : Bool), v50 = .bool x50_13 ∧ Aside0 (paternosterlaw20_TurnHand.j1 kq a0 l3 (wrap64 (Int.tmod a1 64)) (wrap64 ((wrap64 (Int.tmod a2 20)) + 1)) x50_13 t192 t193 = some r) ∧ Aside0 (kq ≤ kj6) ∧ Aside0 (wc.heap[gb195]? = some (.cells #[.int .i64 t192, .int .i64 t193] 23 (0, 0))) ∧ Aside0 (Below w.heap.size w wc))
          case first =>
            have H := HC14.out
            clear HC14
            by_cases c19 : t194 = true
            · subst c19
              have H1 : (paternosterlaw20_TurnHand.j1 kj6 a0 l3 (wrap64 (Int.tmod a1 64)) (wrap64 ((wrap64 (Int.tmod a2 20)) + 1)) (t193 != (wrap64 ((wrap64 (Int.tmod a2 20)) + 1))) t192 t193) = some r := by rw [if_pos rfl] at H; exact H
              clear H
              have H := H1
              clear H1
              have H' := Aside0.mk H
              clear H
              have hcz20_0 : w17.cell? ⟨gb195, 0, none⟩ = some (.int .i64 0) := (blk_cell BK195.out 0).trans rfl
              have hcz20_1 : w17.cell? ⟨gb195, 1, none⟩ = some (.int .i64 0) := (blk_cell BK195.out 1).trans rfl
              have hfz20_0 := blk_frozen BK195.out 0
              have hfz20_1 := blk_frozen BK195.out 1
              go_wp2
              go_meet
              case rel => exact ⟨_, ((t193 != (wrap64 ((wrap64 (Int.tmod a2 20)) + 1)))), (by first | rfl | (simp; done) | (simp [*]; done)), H', ⟨by have := HJ6.out; first | omega | exact Nat.le_refl _⟩, ⟨by (with_reducible repeat (first | refine blk_drewN ?_ _ | refine blk_drew ?_ | refine blk_alloc ?_ _)); refine blk_put (cs := #[.int .i64 t192, .int .i64 0]) ?_ 1 _ rfl; (with_reducible repeat (first | refine blk_drewN ?_ _ | refine blk_drew ?_ | refine blk_alloc ?_ _)); refine blk_put (cs := #[.int .i64 0, .int .i64 0]) ?_ 0 _ rfl; (with_reducible repeat (first | refine blk_drewN ?_ _ | refine blk_drew ?_ | refine blk_alloc ?_ _)); exact BK195.out⟩, ⟨by repeat (first | (with_reducible first | exact HB.out | apply below_alloc | apply pw_below_drewN | apply below_drew1 | refine below_set ?_ GE195.out) | exact HB.out)⟩⟩
            · replace c19 := Bool.eq_false_iff.mpr c19
              subst c19
              have H1 : (paternosterlaw20_TurnHand.j1 kj6 a0 l3 (wrap64 (Int.tmod a1 64)) (wrap64 ((wrap64 (Int.tmod a2 20)) + 1)) true t192 t193) = some r := by rw [if_neg (show ¬ (false = true) by decide)] at H; exact H
              clear H
              have H := H1
              clear H1
              have H' := Aside0.mk H
              clear H
              go_wp2
              go_meet
              case rel => exact ⟨_, (true), (by first | rfl | (simp; done) | (simp [*]; done)), H', ⟨by have := HJ6.out; first | omega | exact Nat.le_refl _⟩, ⟨by (with_reducible repeat (first | refine blk_drewN ?_ _ | refine blk_drew ?_ | refine blk_alloc ?_ _)); refine blk_put (cs := #[.int .i64 t192, .int .i64 0]) ?_ 1 _ rfl; (with_reducible repeat (first | refine blk_drewN ?_ _ | refine blk_drew ?_ | refine blk_alloc ?_ _)); refine blk_put (cs := #[.int .i64 0, .int .i64 0]) ?_ 0 _ rfl; (with_reducible repeat (first | refine blk_drewN ?_ _ | refine blk_drew ?_ | refine blk_alloc ?_ _)); exact BK195.out⟩, ⟨by repeat (first | (with_reducible first | exact HB.out | apply below_alloc | apply pw_below_drewN | apply below_drew1 | refine below_set ?_ GE195.out) | exact HB.out)⟩⟩
          case rest =>
            clear HC14
            try clear c1
            try clear p2
            try clear c3
            try clear c6
            try clear p6
            try clear c7
            try clear c9
            try clear c9b0
            try clear c9b1
            try clear c10
            try clear c11
            try clear c12
            try clear c19
            try clear hcz18_0
            try clear hcz18_1
            try clear hcz20_0
            try clear hcz20_1
            try clear hfz18_0
            try clear hfz18_1
            try clear hfz20_0
            try clear hfz20_1
            try clear p2
            try clear p6
            obtain ⟨kq, x50_13, rfl, HA, HJ13, BK195, HB⟩ := hcut
            cases kq with
            | zero => exact absurd HA.out (by simp [paternosterlaw20_TurnHand.j1])
            | succ kj13 =>
              have H := HA.out
              clear HA
              simp only [paternosterlaw20_TurnHand.j1] at H
              by_cases c21 : x50_13 = true
              · subst c21
                have H1 : (some false) = some r := by rw [if_pos rfl] at H; exact H
                clear H
                have H := H1
                clear H1
                obtain rfl := Option.some.inj H
                go_wp2
                go_ret
                exact ⟨by first | rfl | (simp [errW_none, errW_some] <;> rfl) | (simp [*, errW_none, errW_some] <;> rfl), by repeat (first | (with_reducible first | exact HB.out | apply below_alloc | apply pw_below_drewN | apply below_drew1 | refine below_set ?_ GE195.out) | exact HB.out)⟩
              · replace c21 := Bool.eq_false_iff.mpr c21
                subst c21
                have H1 : (paternosterlaw20_TurnHand.l0 kj13 a0 l3 (wrap64 (Int.tmod a1 64)) (wrap64 ((wrap64 (Int.tmod a2 20)) + 1)) 0 0 t192 t193) = some r := by rw [if_neg (show ¬ (false = true) by decide)] at H; exact H
                clear H
                have H := H1
                clear H1
                have H' := Aside0.mk H
                clear H
                go_wp2
                go_loopg [14, 15] kj13 (fun kq v14 v15 w' => ∃ (x14_3 : Int) (x15_3 : Int) (x196000_3 : Int) (x196001_3 : Int), v14 = .int .i64 x14_3 ∧ v15 = .int .i64 x15_3 ∧ Aside0 (paternosterlaw20_TurnHand.l0 kq a0 l3 (wrap64 (Int.tmod a1 64)) (wrap64 ((wrap64 (Int.tmod a2 20)) + 1)) x14_3 x15_3 x196000_3 x196001_3 = some r) ∧ Aside0 (kq ≤ kj13) ∧ Aside0 (w'.heap[gb195]? = some (.cells #[.int .i64 x196000_3, .int .i64 x196001_3] 23 (0, 0))) ∧ Aside0 (Below w.heap.size w w'))
                case atStart => exact ⟨(0), (0), (t192), (t193), (by first | rfl | (simp; done) | (simp [*]; done)), (by first | rfl | (simp; done) | (simp [*]; done)), H', ⟨Nat.le_refl _⟩, ⟨by (with_reducible repeat (first | refine blk_drewN ?_ _ | refine blk_drew ?_ | refine blk_alloc ?_ _)); exact BK195.out⟩, ⟨by repeat (first | (with_reducible first | exact HB.out | apply below_alloc | apply pw_below_drewN | apply below_drew1 | refine below_set ?_ GE195.out) | exact HB.out)⟩⟩
                case round =>
                  clear H'
                  try clear c1
                  try clear c2
                  try clear p2
                  try clear c3
                  try clear c6
                  try clear p6
                  try clear c7
                  try clear c9
                  try clear c9b0
                  try clear c9b1
                  try clear c10
                  try clear c11
                  try clear c12
                  try clear c19
                  try clear c21
                  try clear hcz18_0
                  try clear hcz18_1
                  try clear hcz20_0
                  try clear hcz20_1
                  try clear hfz18_0
                  try clear hfz18_1
                  try clear hfz20_0
                  try clear hfz20_1
                  try clear p2
                  try clear p6
                  obtain ⟨x14_3, x15_3, x196000_3, x196001_3, rfl, rfl, HA, HK3, BK195, HB⟩ := hrel
                  cases gk with
                  | zero => exact absurd HA.out (by simp [paternosterlaw20_TurnHand.l0])
                  | succ k3 =>
                    have H := HA.out
                    clear HA
                    simp only [paternosterlaw20_TurnHand.l0] at H
                    by_cases c22 : x15_3 < (l3.length : Int)
                    · rw [if_pos c22] at H
                      have c22b0 : decide (x15_3 < (l3.length : Int)) = true := decide_eq_true c22
                      clear c22
                      by_cases c23 : 0 ≤ x15_3
                      · rw [if_pos c23] at H
                        have c23b0 : decide (0 ≤ x15_3) = true := decide_eq_true c23
                        clear c23
                        replace H := Option.bind_eq_some_iff.mp H
                        obtain ⟨⟨t197, t198⟩, A240, H⟩ := H
                        replace H : (if rdOf false l3 x15_3 = true then (paternosterlaw20_TurnHand.j3 k3 a0 l3 (wrap64 (Int.tmod a1 64)) (wrap64 ((wrap64 (Int.tmod a2 20)) + 1)) x14_3 x15_3 t197 t198) else (paternosterlaw20_TurnHand.j3 k3 a0 l3 (wrap64 (Int.tmod a1 64)) (wrap64 ((wrap64 (Int.tmod a2 20)) + 1)) (wrap64 (x14_3 + 1)) x15_3 t197 t198)) = some r := H
                        have A24 := Aside0.mk A240
                        clear A240
                        have HC25 := Aside0.mk H
                        clear H
                        try go_wp2
                        have n0_ := Aside0.mk (blk_drew BK195.out)
                        have n1_ := Aside0.mk (below_drew1 HB.out)
                        clear BK195
                        clear HB
                        have BK195 := n0_
                        have HB := n1_
                        clear n0_ n1_
                        have p196 : 0 ≤ (x15_3 : Int) := of_decide_eq_true (by first | (with_reducible assumption) | assumption)
                        have q196 : x15_3 < (l3.length : Int) := of_decide_eq_true (by first | (with_reducible assumption) | assumption)
                        obtain ⟨ad196, e196, hx196_0⟩ := Kd.at_bool HR3.out x15_3 p196 q196
                        have hw196_0 := hx196_0
                        cases e196
                        replace hx196_0 := (HB.out.cell (World.block_lt_of_cell? w _ hx196_0)).trans hx196_0
                        replace p196 := eq_true p196
                        replace q196 := eq_true q196
                        refine start_ (n := 9) (S := fun w' => w'.cell? ⟨gb195, 0, none⟩ = some (.int .i64 x196000_3) ∧ w'.cell? ⟨gb195, 1, none⟩ = some (.int .i64 x196001_3) ∧ w'.cell? (ad196.add (x15_3).toNat) = some (.bool (rdOf false l3 x15_3))) (ds := [8]) #[false, false, false, false, false, false, false, false, false] (by kernel_rfl) rfl rfl ⟨(blk_cell BK195.out 0).trans rfl, (blk_cell BK195.out 1).trans rfl, ((HB.out.cell (World.block_lt_of_cell? w _ hw196_0)).trans hw196_0)⟩ (fun hHeld => ?_); refine with_tabW paternosterlaw20_TurnHand.tab15 paternosterlaw20_TurnHand.bits15 (fun HT_ HW_ => ?_)
                        generalize wr.drew = w26 at BK195 HB hx196_0 hHeld ⊢
                        refine pure_ (i := 1) (N := some 58) (v := ?_) (a' := ?_) #[false, true, false, false, false, false, false, false, false] rfl rfl (any_of HT_.out (by kernel_rfl)) (fun _ _ _ h => h) (Or.inl ⟨by rfl, ?_⟩) ?_ ?_
                        rotate_left
                        · intro w'
                          go_simp
                          with_reducible rfl
                        rotate_left
                        · simp only [Act.put, List.setIfInBounds_toArray, List.set_cons_zero, List.set_cons_succ, i64_w, i32_w]
                          rfl
                        refine pure_ (i := 2) (N := some 59) (v := ?_) (a' := ?_) #[false, true, true, false, false, false, false, false, false] rfl rfl (any_of HT_.out (by kernel_rfl)) (fun _ _ _ h => h) (Or.inl ⟨by rfl, ?_⟩) ?_ ?_
                        rotate_left
                        · intro w'
                          go_simp
                          with_reducible rfl
                        rotate_left
                        · simp only [Act.put, List.setIfInBounds_toArray, List.set_cons_zero, List.set_cons_succ, i64_w, i32_w]
                          rfl
                        refine pure_ (i := 3) (N := some 60) (v := ?_) (a' := ?_) #[false, true, true, true, false, false, false, false, false] rfl rfl (any_of HT_.out (by kernel_rfl)) (fun _ _ _ h => h) (Or.inl ⟨by rfl, ?_⟩) ?_ ?_
                        rotate_left
                        · intro w'
                          go_simp
                          with_reducible rfl
                        rotate_left
                        · simp only [Act.put, List.setIfInBounds_toArray, List.set_cons_zero, List.set_cons_succ, i64_w, i32_w]
                          rfl
                        refine pure_ (i := 4) (N := some 61) (v := ?_) (a' := ?_) #[false, true, true, true, true, false, false, false, false] rfl rfl (any_of HT_.out (by kernel_rfl)) (fun _ _ _ h => h) (Or.inl ⟨by rfl, ?_⟩) ?_ ?_
                        rotate_left
                        · intro w'
                          go_simp
                          with_reducible rfl
                        rotate_left
                        · simp only [Act.put, List.setIfInBounds_toArray, List.set_cons_zero, List.set_cons_succ, i64_w, i32_w]
                          rfl
                        refine pure_ (i := 6) (N := some 63) (v := ?_) (a' := ?_) #[false, true, true, true, true, false, true, false, false] rfl rfl (any_of HT_.out (by kernel_rfl)) (fun _ _ _ h => h) (Or.inl ⟨by rfl, ?_⟩) ?_ ?_
                        rotate_left
                        · intro w'
                          go_simp
                          with_reducible rfl
                        rotate_left
                        · simp only [Act.put, List.setIfInBounds_toArray, List.set_cons_zero, List.set_cons_succ, i64_w, i32_w]
                          rfl
                        refine take_ (i := 0) (N := some 57) (v := ?_) (a' := ?_) #[true, true, true, true, true, false, true, false, false] rfl rfl (take_ofW HT_.out HW_.out (by kernel_rfl)) (fun _ _ _ h => h) (Or.inl ⟨by rfl, ?_⟩) hHeld ?_ ?_
                        rotate_left
                        · rintro w' ⟨s0, s1, s2⟩
                          go_simp
                          with_reducible rfl
                        rotate_left
                        · simp only [Act.put, List.setIfInBounds_toArray, List.set_cons_zero, List.set_cons_succ, i64_w, i32_w]
                          rfl
                        refine take_ (i := 5) (N := some 62) (v := ?_) (a' := ?_) #[true, true, true, true, true, true, true, false, false] rfl rfl (take_ofW HT_.out HW_.out (by kernel_rfl)) (fun _ _ _ h => h) (Or.inl ⟨by rfl, ?_⟩) hHeld ?_ ?_
                        rotate_left
                        · rintro w' ⟨s0, s1, s2⟩
                          go_simp
                          with_reducible rfl
                        rotate_left
                        · simp only [Act.put, List.setIfInBounds_toArray, List.set_cons_zero, List.set_cons_succ, i64_w, i32_w]
                          rfl
                        refine one_ (i := 7) (N := some 64) #[true, true, true, true, true, true, true, true, false] rfl rfl (one_of HT_.out (by kernel_rfl)) (by decide) (fun K hK => ?_)
                        refine goes_ Tryd.func8 (by kernel_rfl) rfl #[.agg #[.int .i64 x196000_3, .int .i64 x196001_3], .int .u64 a0, .bool (rdOf false l3 x15_3), .int .i64 (wrap64 ((wrap64 (Int.tmod a2 20)) + 1))] (by rfl) rfl rfl (by (try simp only [List.map_toArray, List.map_cons, List.map_nil]); first | done | rfl | (simp only [List.length_drop, List.length_take]; rfl)) ?_
                        with_reducible refine (turn_Turn_Step.calls x196000_3 x196001_3 a0 (rdOf false l3 x15_3) (wrap64 ((wrap64 (Int.tmod a2 20)) + 1)) t197 t198 _ A24.out ?sideL).mono ?_
                        (case sideL => exact laid_below LA.out (by repeat (first | (with_reducible first | exact HB.out | apply below_alloc | apply pw_below_drewN | apply below_drew1 | refine below_set ?_ GE195.out) | exact HB.out)))
                        rintro e w27 ⟨rfl, hb⟩
                        refine ⟨_, rfl, ?_⟩
                        have n0_ := Aside0.mk (blk_below (g := gb195) (o := .cells #[.int .i64 x196000_3, .int .i64 x196001_3] 23 (0, 0)) (by (with_reducible repeat (first | refine blk_drewN ?_ _ | refine blk_drew ?_ | refine blk_alloc ?_ _)); exact BK195.out) hb)
                        have n1_ := Aside0.mk (below_step (by repeat (first | (with_reducible first | exact HB.out | apply below_alloc | apply pw_below_drewN | apply below_drew1 | refine below_set ?_ GE195.out) | exact HB.out)) hb)
                        clear BK195
                        clear HB
                        have BK195 := n0_
                        have HB := n1_
                        clear n0_ n1_
                        (try clear hb)
                        (try clear hb2)
                        (try clear hk)
                        (try clear hi)
                        refine hK.out _ _ ⟨(blk_cell BK195.out 0).trans rfl, (blk_cell BK195.out 1).trans rfl, ((HB.out.cell (World.block_lt_of_cell? w _ hw196_0)).trans hw196_0)⟩ (fun hHeld => ?_)
                        clear hK K
                        refine norm_ (a' := ?_) ?_ ?_
                        rotate_left
                        · show Act.put _ (some 64) _ = _
                          simp only [Act.put, List.setIfInBounds_toArray, List.set_cons_zero, List.set_cons_succ, i64_w, i32_w]
                          rfl
                        refine last_ (i := 8) (N := none) #[true, true, true, true, true, true, true, true, true] rfl rfl (one_of HT_.out (by kernel_rfl)) (by decide) (fun K hK => ?_)
                        have hs28 : w27.cell? ⟨gb195, 0, none⟩ = some (.int .i64 x196000_3) := (blk_cell BK195.out 0).trans rfl
                        have hfs28 := blk_frozen BK195.out 0
                        have hs29 : w27.cell? ⟨gb195, 1, none⟩ = some (.int .i64 x196001_3) := (blk_cell BK195.out 1).trans rfl
                        have hfs29 := blk_frozen BK195.out 1
                        refine skip_ (w1 := ?_) (by rfl) rfl ?_ ?_
                        rotate_left
                        · go_simp
                          rfl
                        refine hK.out _ _ ?_
                        clear hK K
                        refine done_ (done_of HT_.out (by kernel_rfl)) ?_
                        have p199 : 0 ≤ (x15_3 : Int) := of_decide_eq_true (by first | (with_reducible assumption) | assumption)
                        have q199 : x15_3 < (l3.length : Int) := of_decide_eq_true (by first | (with_reducible assumption) | assumption)
                        obtain ⟨ad199, e199, hx199_0⟩ := Kd.at_bool HR3.out x15_3 p199 q199
                        obtain rfl : ad196 = ad199 := (by injection e199)
                        have hn199_0 : ad196.block ≠ gb195 := Nat.ne_of_lt (Nat.lt_of_lt_of_le (by have := World.block_lt_of_cell? _ _ hx199_0; first | rwa [add_block] at this | exact this) GW195.out)
                        have hn199_1 : ad196.block ≠ gb195 := Nat.ne_of_lt (Nat.lt_of_lt_of_le (by have := World.block_lt_of_cell? _ _ hx199_0; first | rwa [add_block] at this | exact this) GW195.out)
                        replace hx199_0 := (HB.out.cell (World.block_lt_of_cell? w _ hx199_0)).trans hx199_0
                        replace hx199_0 := (cell_far (p := ⟨gb195, 0, none⟩) (by first | (rw [add_block]; exact hn199_0) | (show (Addr.add _ _).block ≠ _; rw [add_block]; exact hn199_0) | exact hn199_0) (.int .i64 t197)).trans hx199_0
                        replace hx199_0 := (cell_far (p := ⟨gb195, 1, none⟩) (by first | (rw [add_block]; exact hn199_1) | (show (Addr.add _ _).block ≠ _; rw [add_block]; exact hn199_1) | exact hn199_1) (.int .i64 t198)).trans hx199_0
                        clear hn199_0
                        clear hn199_1
                        replace p199 := eq_true p199
                        replace q199 := eq_true q199
                        go_upto_if 69 with (fail)
                        go_cut [14] (fun v14 wc => ∃ (kq : Nat) (x14_24 : Int), v14 = .int .i64 x14_24 ∧ Aside0 (paternosterlaw20_TurnHand.j3 kq a0 l3 (wrap64 (Int.tmod a1 64)) (wrap64 ((wrap64 (Int.tmod a2 20)) + 1)) x14_24 x15_3 t197 t198 = some r) ∧ Aside0 (kq ≤ k3) ∧ Aside0 (wc.heap[gb195]? = some (.cells #[.int .i64 t197, .int .i64 t198] 23 (0, 0))) ∧ Aside0 (Below w.heap.size w wc))
                        case first =>
                          have H := HC25.out
                          clear HC25
                          obtain ⟨bq30, hbq30⟩ : ∃ b_ : Bool, b_ = (rdOf false l3 x15_3) := ⟨_, rfl⟩
                          replace H : (if bq30 = true then (paternosterlaw20_TurnHand.j3 k3 a0 l3 (wrap64 (Int.tmod a1 64)) (wrap64 ((wrap64 (Int.tmod a2 20)) + 1)) x14_3 x15_3 t197 t198) else (paternosterlaw20_TurnHand.j3 k3 a0 l3 (wrap64 (Int.tmod a1 64)) (wrap64 ((wrap64 (Int.tmod a2 20)) + 1)) (wrap64 (x14_3 + 1)) x15_3 t197 t198)) = some r := by rw [← hbq30] at H; exact H
                          have Nbq30 := Aside0.mk hbq30
                          clear hbq30
                          (try rw [← Nbq30.out])
                          by_cases c31 : bq30 = true
                          · subst c31
                            have H1 : (paternosterlaw20_TurnHand.j3 k3 a0 l3 (wrap64 (Int.tmod a1 64)) (wrap64 ((wrap64 (Int.tmod a2 20)) + 1)) x14_3 x15_3 t197 t198) = some r := by rw [if_pos rfl] at H; exact H
                            clear H
                            have H := H1
                            clear H1
                            have H' := Aside0.mk H
                            clear H
                            go_wp2
                            go_meet
                            case rel => exact ⟨_, (x14_3), (by first | rfl | (simp; done) | (simp [*]; done)), H', ⟨by have := HJ6.out; have := HJ13.out; have := HK3.out; first | omega | exact Nat.le_refl _⟩, ⟨by (with_reducible repeat (first | refine blk_drewN ?_ _ | refine blk_drew ?_ | refine blk_alloc ?_ _)); refine blk_put (cs := #[.int .i64 t197, .int .i64 x196001_3]) ?_ 1 _ rfl; (with_reducible repeat (first | refine blk_drewN ?_ _ | refine blk_drew ?_ | refine blk_alloc ?_ _)); refine blk_put (cs := #[.int .i64 x196000_3, .int .i64 x196001_3]) ?_ 0 _ rfl; (with_reducible repeat (first | refine blk_drewN ?_ _ | refine blk_drew ?_ | refine blk_alloc ?_ _)); exact BK195.out⟩, ⟨by repeat (first | (with_reducible first | exact HB.out | apply below_alloc | apply pw_below_drewN | apply below_drew1 | refine below_set ?_ GE195.out) | exact HB.out)⟩⟩
                          · replace c31 := Bool.eq_false_iff.mpr c31
                            subst c31
                            have H1 : (paternosterlaw20_TurnHand.j3 k3 a0 l3 (wrap64 (Int.tmod a1 64)) (wrap64 ((wrap64 (Int.tmod a2 20)) + 1)) (wrap64 (x14_3 + 1)) x15_3 t197 t198) = some r := by rw [if_neg (show ¬ (false = true) by decide)] at H; exact H
                            clear H
                            have H := H1
                            clear H1
                            have H' := Aside0.mk H
                            clear H
                            go_wp2
                            go_meet
                            case rel => exact ⟨_, (wrap64 (x14_3 + 1)), (by first | rfl | (simp; done) | (simp [*]; done)), H', ⟨by have := HJ6.out; have := HJ13.out; have := HK3.out; first | omega | exact Nat.le_refl _⟩, ⟨by (with_reducible repeat (first | refine blk_drewN ?_ _ | refine blk_drew ?_ | refine blk_alloc ?_ _)); refine blk_put (cs := #[.int .i64 t197, .int .i64 x196001_3]) ?_ 1 _ rfl; (with_reducible repeat (first | refine blk_drewN ?_ _ | refine blk_drew ?_ | refine blk_alloc ?_ _)); refine blk_put (cs := #[.int .i64 x196000_3, .int .i64 x196001_3]) ?_ 0 _ rfl; (with_reducible repeat (first | refine blk_drewN ?_ _ | refine blk_drew ?_ | refine blk_alloc ?_ _)); exact BK195.out⟩, ⟨by repeat (first | (with_reducible first | exact HB.out | apply below_alloc | apply pw_below_drewN | apply below_drew1 | refine below_set ?_ GE195.out) | exact HB.out)⟩⟩
                        case rest =>
                          clear HC25
                          try clear c1
                          try clear p1
                          try clear q1
                          try clear hx1
                          try clear c2
                          try clear p2
                          try clear c3
                          try clear q3
                          try clear c6
                          try clear p6
                          try clear c7
                          try clear c8
                          try clear c9
                          try clear c9b0
                          try clear c9b1
                          try clear c10
                          try clear c11
                          try clear c12
                          try clear c19
                          try clear p19
                          try clear q19
                          try clear hx19
                          try clear c21
                          try clear c22
                          try clear c22b0
                          try clear c23
                          try clear c23b0
                          try clear q30
                          try clear c31
                          try clear hcz18_0
                          try clear hcz18_1
                          try clear hcz20_0
                          try clear hcz20_1
                          try clear hfz18_0
                          try clear hfz18_1
                          try clear hfz20_0
                          try clear hfz20_1
                          try clear hx196_0
                          try clear hx199_0
                          try clear p196
                          try clear p199
                          try clear p2
                          try clear p6
                          try clear q196
                          try clear q199
                          obtain ⟨kq, x14_24, rfl, HA, HJ24, BK195, HB⟩ := hcut
                          cases kq with
                          | zero => exact absurd HA.out (by simp [paternosterlaw20_TurnHand.j3])
                          | succ kj24 =>
                            have H := HA.out
                            clear HA
                            simp only [paternosterlaw20_TurnHand.j3] at H
                            have HC32 := Aside0.mk H
                            clear H
                            go_upto_region 18 with (fail)
                            go_cut [88] (fun v88 wc => ∃ (kq : Nat) (x88_31 : Bool), v88 = .bool x88_31 ∧ Aside0 (paternosterlaw20_TurnHand.j4 kq a0 l3 (wrap64 (Int.tmod a1 64)) (wrap64 ((wrap64 (Int.tmod a2 20)) + 1)) x14_24 x15_3 x88_31 t197 t198 = some r) ∧ Aside0 (kq ≤ kj24) ∧ Aside0 (wc.heap[gb195]? = some (.cells #[.int .i64 t197, .int .i64 t198] 23 (0, 0))) ∧ Aside0 (Below w.heap.size w wc))
                            case first =>
                              have H := HC32.out
                              clear HC32
                              by_cases c33 : x14_24 < (wrap64 ((wrap64 (Int.tmod a2 20)) + 1))
                              · rw [if_pos c33] at H
                                have c33b0 : decide (x14_24 < (wrap64 ((wrap64 (Int.tmod a2 20)) + 1))) = true := decide_eq_true c33
                                clear c33
                                (first | rw [c33b0] | (simp only [i64_w, i32_w]; rw [c33b0]) | skip)
                                by_cases c34 : t197 = (wrap64 (Int.tmod a1 64))
                                · rw [if_pos c34] at H
                                  have c34b0 : (t197 == (wrap64 (Int.tmod a1 64))) = true := beq_iff_eq.mpr c34
                                  have c34b1 : (t197 != (wrap64 (Int.tmod a1 64))) = false := bne_eq_false_iff_eq.mpr c34
                                  clear c34
                                  have H' := Aside0.mk H
                                  clear H
                                  have hcz35_0 : wc.cell? ⟨gb195, 0, none⟩ = some (.int .i64 t197) := (blk_cell BK195.out 0).trans rfl
                                  have hcz35_1 : wc.cell? ⟨gb195, 1, none⟩ = some (.int .i64 t198) := (blk_cell BK195.out 1).trans rfl
                                  have hfz35_0 := blk_frozen BK195.out 0
                                  have hfz35_1 := blk_frozen BK195.out 1
                                  go_wp2
                                  go_meet
                                  case rel => exact ⟨_, ((t198 != (wrap64 ((wrap64 ((wrap64 (Int.tmod a2 20)) + 1)) - x14_24)))), (by first | rfl | (simp; done) | (simp [*]; done)), H', ⟨by have := HJ6.out; have := HJ13.out; have := HK3.out; have := HJ24.out; first | omega | exact Nat.le_refl _⟩, ⟨by (with_reducible repeat (first | refine blk_drewN ?_ _ | refine blk_drew ?_ | refine blk_alloc ?_ _)); exact BK195.out⟩, ⟨by repeat (first | (with_reducible first | exact HB.out | apply below_alloc | apply pw_below_drewN | apply below_drew1 | refine below_set ?_ GE195.out) | exact HB.out)⟩⟩
                                · rw [if_neg c34] at H
                                  have c34b0 : (t197 == (wrap64 (Int.tmod a1 64))) = false := beq_eq_false_iff_ne.mpr c34
                                  have c34b1 : (t197 != (wrap64 (Int.tmod a1 64))) = true := bne_iff_ne.mpr c34
                                  have H' := Aside0.mk H
                                  clear H
                                  have hcz36_0 : wc.cell? ⟨gb195, 0, none⟩ = some (.int .i64 t197) := (blk_cell BK195.out 0).trans rfl
                                  have hcz36_1 : wc.cell? ⟨gb195, 1, none⟩ = some (.int .i64 t198) := (blk_cell BK195.out 1).trans rfl
                                  have hfz36_0 := blk_frozen BK195.out 0
                                  have hfz36_1 := blk_frozen BK195.out 1
                                  go_wp2
                                  go_meet
                                  case rel => exact ⟨_, (true), (by first | rfl | (simp; done) | (simp [*]; done)), H', ⟨by have := HJ6.out; have := HJ13.out; have := HK3.out; have := HJ24.out; first | omega | exact Nat.le_refl _⟩, ⟨by (with_reducible repeat (first | refine blk_drewN ?_ _ | refine blk_drew ?_ | refine blk_alloc ?_ _)); exact BK195.out⟩, ⟨by repeat (first | (with_reducible first | exact HB.out | apply below_alloc | apply pw_below_drewN | apply below_drew1 | refine below_set ?_ GE195.out) | exact HB.out)⟩⟩
                              · rw [if_neg c33] at H
                                have c33b0 : decide (x14_24 < (wrap64 ((wrap64 (Int.tmod a2 20)) + 1))) = false := decide_eq_false c33
                                clear c33
                                (first | rw [c33b0] | (simp only [i64_w, i32_w]; rw [c33b0]) | skip)
                                have H' := Aside0.mk H
                                clear H
                                go_wp2
                                go_meet
                                case rel => exact ⟨_, (false), (by first | rfl | (simp; done) | (simp [*]; done)), H', ⟨by have := HJ6.out; have := HJ13.out; have := HK3.out; have := HJ24.out; first | omega | exact Nat.le_refl _⟩, ⟨by (with_reducible repeat (first | refine blk_drewN ?_ _ | refine blk_drew ?_ | refine blk_alloc ?_ _)); exact BK195.out⟩, ⟨by repeat (first | (with_reducible first | exact HB.out | apply below_alloc | apply pw_below_drewN | apply below_drew1 | refine below_set ?_ GE195.out) | exact HB.out)⟩⟩
                            case rest =>
                              clear HC32
                              try clear c1
                              try clear p1
                              try clear q1
                              try clear hx1
                              try clear c2
                              try clear p2
                              try clear c3
                              try clear q3
                              try clear c6
                              try clear p6
                              try clear c7
                              try clear c8
                              try clear c9
                              try clear c9b0
                              try clear c9b1
                              try clear c10
                              try clear c11
                              try clear c12
                              try clear c19
                              try clear p19
                              try clear q19
                              try clear hx19
                              try clear c21
                              try clear c22
                              try clear c22b0
                              try clear c23
                              try clear c23b0
                              try clear q30
                              try clear c31
                              try clear c33
                              try clear c33b0
                              try clear c34
                              try clear c34b0
                              try clear c34b1
                              try clear hcz18_0
                              try clear hcz18_1
                              try clear hcz20_0
                              try clear hcz20_1
                              try clear hcz35_0
                              try clear hcz35_1
                              try clear hcz36_0
                              try clear hcz36_1
                              try clear hfz18_0
                              try clear hfz18_1
                              try clear hfz20_0
                              try clear hfz20_1
                              try clear hfz35_0
                              try clear hfz35_1
                              try clear hfz36_0
                              try clear hfz36_1
                              try clear hx196_0
                              try clear hx199_0
                              try clear p1
                              try clear p19
                              try clear p196
                              try clear p199
                              try clear p2
                              try clear p6
                              try clear q1
                              try clear q19
                              try clear q196
                              try clear q199
                              try clear q3
                              try clear q30
                              obtain ⟨kq, x88_31, rfl, HA, HJ31, BK195, HB⟩ := hcut
                              cases kq with
                              | zero => exact absurd HA.out (by simp [paternosterlaw20_TurnHand.j4])
                              | succ kj31 =>
                                have H := HA.out
                                clear HA
                                simp only [paternosterlaw20_TurnHand.j4] at H
                                by_cases c37 : x88_31 = true
                                · subst c37
                                  have H1 : (some false) = some r := by rw [if_pos rfl] at H; exact H
                                  clear H
                                  have H := H1
                                  clear H1
                                  obtain rfl := Option.some.inj H
                                  go_wp2
                                  go_ret
                                  exact ⟨by first | rfl | (simp [errW_none, errW_some] <;> rfl) | (simp [*, errW_none, errW_some] <;> rfl), by repeat (first | (with_reducible first | exact HB.out | apply below_alloc | apply pw_below_drewN | apply below_drew1 | refine below_set ?_ GE195.out) | exact HB.out)⟩
                                · replace c37 := Bool.eq_false_iff.mpr c37
                                  subst c37
                                  have H1 : (if x14_24 ≥ (wrap64 ((wrap64 (Int.tmod a2 20)) + 1)) then ((order_Has.f a0 t197).bind fun t200 => (if t200 = true then (if t197 = (wrap64 (Int.tmod a1 64)) then ((order_Without.f a0 (wrap64 (Int.tmod a1 64))).bind fun t201 => (some (t201 == 0))) else (some true)) else (some false))) else (paternosterlaw20_TurnHand.l0 kj31 a0 l3 (wrap64 (Int.tmod a1 64)) (wrap64 ((wrap64 (Int.tmod a2 20)) + 1)) x14_24 (wrap64 (x15_3 + 1)) t197 t198)) = some r := by rw [if_neg (show ¬ (false = true) by decide)] at H; exact H
                                  clear H
                                  have H := H1
                                  clear H1
                                  by_cases c38 : x14_24 ≥ (wrap64 ((wrap64 (Int.tmod a2 20)) + 1))
                                  · rw [if_pos c38] at H
                                    have c38b0 : decide ((wrap64 ((wrap64 (Int.tmod a2 20)) + 1)) ≤ x14_24) = true := decide_eq_true c38
                                    clear c38
                                    replace H := Option.bind_eq_some_iff.mp H
                                    obtain ⟨t200, A390, H⟩ := H
                                    replace H : (if t200 = true then (if t197 = (wrap64 (Int.tmod a1 64)) then ((order_Without.f a0 (wrap64 (Int.tmod a1 64))).bind fun t201 => (some (t201 == 0))) else (some true)) else (some false)) = some r := H
                                    have A39 := Aside0.mk A390
                                    clear A390
                                    by_cases c40 : t200 = true
                                    · subst c40
                                      have H1 : (if t197 = (wrap64 (Int.tmod a1 64)) then ((order_Without.f a0 (wrap64 (Int.tmod a1 64))).bind fun t201 => (some (t201 == 0))) else (some true)) = some r := by rw [if_pos rfl] at H; exact H
                                      clear H
                                      have H := H1
                                      clear H1
                                      by_cases c41 : t197 = (wrap64 (Int.tmod a1 64))
                                      · rw [if_pos c41] at H
                                        have c41b0 : (t197 == (wrap64 (Int.tmod a1 64))) = true := beq_iff_eq.mpr c41
                                        have c41b1 : (t197 != (wrap64 (Int.tmod a1 64))) = false := bne_eq_false_iff_eq.mpr c41
                                        clear c41
                                        replace H := Option.bind_eq_some_iff.mp H
                                        obtain ⟨t201, A420, H⟩ := H
                                        replace H : (some (t201 == 0)) = some r := H
                                        have A42 := Aside0.mk A420
                                        clear A420
                                        obtain rfl := Option.some.inj H
                                        have hcz43_0 : wc.cell? ⟨gb195, 0, none⟩ = some (.int .i64 t197) := (blk_cell BK195.out 0).trans rfl
                                        have hcz43_1 : wc.cell? ⟨gb195, 1, none⟩ = some (.int .i64 t198) := (blk_cell BK195.out 1).trans rfl
                                        have hfz43_0 := blk_frozen BK195.out 0
                                        have hfz43_1 := blk_frozen BK195.out 1
                                        go_wp2_with (first | ((with_reducible refine gate_callee (f := 13) rfl ?_); refine goesL_ (some 95) rfl rfl Tryd.func13 (by kernel_rfl) rfl #[.int .u64 a0, .int .i64 t197] rfl (by (try simp only [List.map_toArray, List.map_cons, List.map_nil]); first | done | rfl | (simp only [List.length_drop, List.length_take]; rfl)) ?_; (with_reducible refine (order_Has.calls a0 t197 true _ A39.out).mono ?_); rintro e w' ⟨rfl, ⟨nd, rfl⟩⟩; refine ⟨_, rfl, ?_⟩) | (go_at_call 14; (with_reducible refine (order_Without.calls a0 (wrap64 (Int.tmod a1 64)) t201 _ A42.out).mono ?_); rintro e w' ⟨rfl, ⟨nd, rfl⟩⟩))
                                        go_ret
                                        exact ⟨by first | rfl | (simp [errW_none, errW_some] <;> rfl) | (simp [*, errW_none, errW_some] <;> rfl), by repeat (first | (with_reducible first | exact HB.out | apply below_alloc | apply pw_below_drewN | apply below_drew1 | refine below_set ?_ GE195.out) | exact HB.out)⟩
                                      · rw [if_neg c41] at H
                                        have c41b0 : (t197 == (wrap64 (Int.tmod a1 64))) = false := beq_eq_false_iff_ne.mpr c41
                                        have c41b1 : (t197 != (wrap64 (Int.tmod a1 64))) = true := bne_iff_ne.mpr c41
                                        obtain rfl := Option.some.inj H
                                        have hcz44_0 : wc.cell? ⟨gb195, 0, none⟩ = some (.int .i64 t197) := (blk_cell BK195.out 0).trans rfl
                                        have hcz44_1 : wc.cell? ⟨gb195, 1, none⟩ = some (.int .i64 t198) := (blk_cell BK195.out 1).trans rfl
                                        have hfz44_0 := blk_frozen BK195.out 0
                                        have hfz44_1 := blk_frozen BK195.out 1
                                        go_wp2_with (first | ((with_reducible refine gate_callee (f := 13) rfl ?_); refine goesL_ (some 95) rfl rfl Tryd.func13 (by kernel_rfl) rfl #[.int .u64 a0, .int .i64 t197] rfl (by (try simp only [List.map_toArray, List.map_cons, List.map_nil]); first | done | rfl | (simp only [List.length_drop, List.length_take]; rfl)) ?_; (with_reducible refine (order_Has.calls a0 t197 true _ A39.out).mono ?_); rintro e w' ⟨rfl, ⟨nd, rfl⟩⟩; refine ⟨_, rfl, ?_⟩))
                                        go_ret
                                        exact ⟨by first | rfl | (simp [errW_none, errW_some] <;> rfl) | (simp [*, errW_none, errW_some] <;> rfl), by repeat (first | (with_reducible first | exact HB.out | apply below_alloc | apply pw_below_drewN | apply below_drew1 | refine below_set ?_ GE195.out) | exact HB.out)⟩
                                    · replace c40 := Bool.eq_false_iff.mpr c40
                                      subst c40
                                      have H1 : (some false) = some r := by rw [if_neg (show ¬ (false = true) by decide)] at H; exact H
                                      clear H
                                      have H := H1
                                      clear H1
                                      obtain rfl := Option.some.inj H
                                      have hcz45_0 : wc.cell? ⟨gb195, 0, none⟩ = some (.int .i64 t197) := (blk_cell BK195.out 0).trans rfl
                                      have hcz45_1 : wc.cell? ⟨gb195, 1, none⟩ = some (.int .i64 t198) := (blk_cell BK195.out 1).trans rfl
                                      have hfz45_0 := blk_frozen BK195.out 0
                                      have hfz45_1 := blk_frozen BK195.out 1
                                      go_wp2_with (first | ((with_reducible refine gate_callee (f := 13) rfl ?_); refine goesL_ (some 95) rfl rfl Tryd.func13 (by kernel_rfl) rfl #[.int .u64 a0, .int .i64 t197] rfl (by (try simp only [List.map_toArray, List.map_cons, List.map_nil]); first | done | rfl | (simp only [List.length_drop, List.length_take]; rfl)) ?_; (with_reducible refine (order_Has.calls a0 t197 false _ A39.out).mono ?_); rintro e w' ⟨rfl, ⟨nd, rfl⟩⟩; refine ⟨_, rfl, ?_⟩))
                                      go_ret
                                      exact ⟨by first | rfl | (simp [errW_none, errW_some] <;> rfl) | (simp [*, errW_none, errW_some] <;> rfl), by repeat (first | (with_reducible first | exact HB.out | apply below_alloc | apply pw_below_drewN | apply below_drew1 | refine below_set ?_ GE195.out) | exact HB.out)⟩
                                  · rw [if_neg c38] at H
                                    have c38b0 : decide ((wrap64 ((wrap64 (Int.tmod a2 20)) + 1)) ≤ x14_24) = false := decide_eq_false c38
                                    clear c38
                                    have H' := Aside0.mk H
                                    clear H
                                    go_wp2
                                    go_roundg kj31
                                    case measure => have := HJ6.out; have := HJ13.out; have := HK3.out; have := HJ24.out; have := HJ31.out; omega
                                    case rel => exact ⟨(x14_24), (wrap64 (x15_3 + 1)), (t197), (t198), (by first | rfl | (simp; done) | (simp [*]; done)), (by first | rfl | (simp; done) | (simp [*]; done)), H', ⟨by have := HJ6.out; have := HJ13.out; have := HK3.out; have := HJ24.out; have := HJ31.out; omega⟩, ⟨by (with_reducible repeat (first | refine blk_drewN ?_ _ | refine blk_drew ?_ | refine blk_alloc ?_ _)); exact BK195.out⟩, ⟨by repeat (first | (with_reducible first | exact HB.out | apply below_alloc | apply pw_below_drewN | apply below_drew1 | refine below_set ?_ GE195.out) | exact HB.out)⟩⟩
                      · rw [if_neg c23] at H
                        exact absurd H (by simp)
                    · rw [if_neg c22] at H
                      have c22b0 : decide (x15_3 < (l3.length : Int)) = false := decide_eq_false c22
                      clear c22
                      obtain rfl := Option.some.inj H
                      go_wp2
                      go_ret
                      exact ⟨by first | rfl | (simp [errW_none, errW_some] <;> rfl) | (simp [*, errW_none, errW_some] <;> rfl), by repeat (first | (with_reducible first | exact HB.out | apply below_alloc | apply pw_below_drewN | apply below_drew1 | refine below_set ?_ GE195.out) | exact HB.out)⟩
  · replace c6 := Bool.eq_false_iff.mpr c6
    subst c6
    have H1 : (some false) = some r := by rw [if_neg (show ¬ (false = true) by decide)] at H; exact H
    clear H
    have H := H1
    clear H1
    obtain rfl := Option.some.inj H
    go_enter Tryd.func6, Tryd.ntmps6
    go_wp2_with (first | ((with_reducible refine gate_callee (f := 7) rfl ?_); refine goesL_ (some 16) rfl rfl Tryd.func7 (by kernel_rfl) rfl #[] rfl (by (try simp only [List.map_toArray, List.map_cons, List.map_nil]); first | done | rfl | (simp only [List.length_drop, List.length_take]; rfl)) ?_; (with_reducible refine (paternosterlaw20_awake.calls  false _ A5.out ?sideL).mono ?_); (case sideL => exact laid_below LA.out (by repeat (first | (with_reducible first | exact HB.out | apply below_alloc | apply pw_below_drewN | apply below_drew1) | exact HB.out))); rintro e w46 ⟨rfl, hb⟩; refine ⟨_, rfl, ?_⟩; have n0_ := Aside0.mk (below_step (by repeat (first | (with_reducible first | exact HB.out | apply below_alloc | apply pw_below_drewN | apply below_drew1) | exact HB.out)) hb); clear HB; have HB := n0_; clear n0_; (try clear hb); (try clear hb2); (try clear hk); (try clear hi)))
    go_ret
    exact ⟨by first | rfl | (simp [errW_none, errW_some] <;> rfl) | (simp [*, errW_none, errW_some] <;> rfl), by repeat (first | (with_reducible first | exact HB.out | apply below_alloc | apply pw_below_drewN | apply below_drew1) | exact HB.out)⟩

end Go.Proofs.YtbaklgemdljmeaaDoor.X
