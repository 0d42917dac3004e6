-- Written by a program of this session (wip/xprint/xprint.py runs the kit's print with hand-proved externs).
import Derived.Test.YtbaklgemdljmeaaDoorLaid
import Derived.Test.YtbaklgemdljmeaaDoorXx0
import Derived.Test.YtbaklgemdljmeaaDoorXx4
import Derived.Test.YtbaklgemdljmeaaDoorXx5
import Derived.Test.YtbaklgemdljmeaaDoorTurnStep
namespace Go.Proofs.YtbaklgemdljmeaaDoor.X
open Go.RowKit Go.Proofs.YtbaklgemdljmeaaDoorW.PrintWords Go.Proofs.YtbaklgemdljmeaaDoorW.PrintLast Go.Proofs.YtbaklgemdljmeaaDoorW.PrintMore
attribute [local go_sem] max2_int min2_int max_two min_two max_three min_three max_four min_four   -- for this text's walks alone
set_option linter.unusedVariables false
set_option linter.unusedSimpArgs false

/-! ### paternosterlaw20_TurnRounds: function 5 -/
mutual
def paternosterlaw20_TurnRounds.l0 : Nat → Int → Int → Int → List Int → Int → Option (Bool)
  | 0, _, _, _, _, _ => none
  | k + 1, x0, x8, x9, x10, x11 => if x11 < 64 then ((order_Has.f x0 x11).bind fun t178 => (if t178 = true then (if x10.length < 17592186044416 then (paternosterlaw20_TurnRounds.l0 k x0 x8 x9 (x10 ++ [x11]) (wrap64 (x11 + 1))) else (none)) else (paternosterlaw20_TurnRounds.l0 k x0 x8 x9 x10 (wrap64 (x11 + 1))))) else ((turn_None.f).bind fun bt182 => (paternosterlaw20_TurnRounds.l1 k x0 x8 x9 x10 0 bt182.1 bt182.2))
def paternosterlaw20_TurnRounds.l1 : Nat → Int → Int → Int → List Int → Int → Int → Int → Option (Bool)
  | 0, _, _, _, _, _, _, _ => none
  | k + 1, x0, x8, x9, x10, x13, x185000, x185001 => if x13 < x9 then ((turn_Turn_Step.f x185000 x185001 x0 false x8).bind fun bt185 => (if x8 = 0 then (none) else (if (x10.length : Int) = 0 then (none) else (if 0 ≤ (Int.tmod (wrap64 (Int.tdiv x13 x8)) (x10.length : Int)) then (if (Int.tmod (wrap64 (Int.tdiv x13 x8)) (x10.length : Int)) < (x10.length : Int) then (if bt185.1 = (rd x10 (Int.tmod (wrap64 (Int.tdiv x13 x8)) (x10.length : Int))) then (paternosterlaw20_TurnRounds.l1 k x0 x8 x9 x10 (wrap64 (x13 + 1)) bt185.1 bt185.2) else (some false)) else (none)) else (none))))) else (some true)
end
def paternosterlaw20_TurnRounds.f (k : Nat) (a0 : Int) (a1 : Int) (a2 : Int) : Option (Bool) := (paternosterlaw20_awake.f).bind fun t177 => (if t177 = true then (if a0 = 0 then (some true) else (paternosterlaw20_TurnRounds.l0 k a0 (wrap64 ((wrap64 (Int.tmod a1 9)) + 1)) (wrap64 (Int.tmod a2 700)) ([] : List Int) 0)) else (some false))
theorem paternosterlaw20_TurnRounds.mono_l : ∀ k, (∀ y0 y1 y2 y3 y4, LeO (paternosterlaw20_TurnRounds.l0 k y0 y1 y2 y3 y4) (paternosterlaw20_TurnRounds.l0 (k + 1) y0 y1 y2 y3 y4)) ∧ (∀ y0 y1 y2 y3 y4 y5 y6, LeO (paternosterlaw20_TurnRounds.l1 k y0 y1 y2 y3 y4 y5 y6) (paternosterlaw20_TurnRounds.l1 (k + 1) y0 y1 y2 y3 y4 y5 y6))
  | 0 => ⟨fun _ _ _ _ _ r h => by simp [paternosterlaw20_TurnRounds.l0] at h, fun _ _ _ _ _ _ _ r h => by simp [paternosterlaw20_TurnRounds.l1] at h⟩
  | k + 1 => by
    obtain ⟨ih0, ih1⟩ := paternosterlaw20_TurnRounds.mono_l k
    refine ⟨?_, ?_⟩
    · intro y0 y1 y2 y3 y4
      unfold paternosterlaw20_TurnRounds.l0
      repeat' first
      | (with_reducible exact ih0 _ _ _ _ _)
      | (with_reducible exact ih1 _ _ _ _ _ _ _)
      | (with_reducible exact LeO.refl _)
      | (with_reducible exact LeO.none _)
      | (with_reducible refine LeO.ite ?_ ?_)
      | (with_reducible refine LeO.bind ?_ (fun _ => ?_))
      | exact ih0 _ _ _ _ _
      | exact ih1 _ _ _ _ _ _ _
      | exact LeO.none _
      | refine LeO.ite ?_ ?_
      | refine LeO.bind ?_ (fun _ => ?_)
    · intro y0 y1 y2 y3 y4 y5 y6
      unfold paternosterlaw20_TurnRounds.l1
      repeat' first
      | (with_reducible exact ih0 _ _ _ _ _)
      | (with_reducible exact ih1 _ _ _ _ _ _ _)
      | (with_reducible exact LeO.refl _)
      | (with_reducible exact LeO.none _)
      | (with_reducible refine LeO.ite ?_ ?_)
      | (with_reducible refine LeO.bind ?_ (fun _ => ?_))
      | exact ih0 _ _ _ _ _
      | exact ih1 _ _ _ _ _ _ _
      | exact LeO.none _
      | refine LeO.ite ?_ ?_
      | refine LeO.bind ?_ (fun _ => ?_)
theorem paternosterlaw20_TurnRounds.mono : ∀ a0 a1 a2 k, LeO (paternosterlaw20_TurnRounds.f k a0 a1 a2) (paternosterlaw20_TurnRounds.f (k + 1) a0 a1 a2) := by
  intro a0 a1 a2 k
  obtain ⟨ih0, ih1⟩ := paternosterlaw20_TurnRounds.mono_l k
  unfold paternosterlaw20_TurnRounds.f
  repeat' first
      | (with_reducible exact ih0 _ _ _ _ _)
      | (with_reducible exact ih1 _ _ _ _ _ _ _)
      | (with_reducible exact LeO.refl _)
      | (with_reducible exact LeO.none _)
      | (with_reducible refine LeO.ite ?_ ?_)
      | (with_reducible refine LeO.bind ?_ (fun _ => ?_))
      | exact ih0 _ _ _ _ _
      | exact ih1 _ _ _ _ _ _ _
      | exact LeO.none _
      | refine LeO.ite ?_ ?_
      | refine LeO.bind ?_ (fun _ => ?_)
set_option maxHeartbeats 8000000 in
set_option maxRecDepth 100000 in
theorem paternosterlaw20_TurnRounds.calls (k : Nat) (a0 : Int) (a1 : Int) (a2 : Int) (r : Bool) (w : World) (h : paternosterlaw20_TurnRounds.f k a0 a1 a2 = some r) (LA0 : Laid w) :
    Calls Tryd.prog 5 #[.int .u64 a0, .int .u8 a1, .int .u16 a2] w fun e w' => e = .returned (.bool r) ∧ Below w.heap.size w w' := by
  have LA := Aside0.mk LA0
  clear LA0
  have hu23 := Tryd.underlying23
  have HB := Aside0.mk (Below.refl w.heap.size w)
  have H : ((paternosterlaw20_awake.f).bind fun t177 => (if t177 = true then (if a0 = 0 then (some true) else (paternosterlaw20_TurnRounds.l0 k a0 (wrap64 ((wrap64 (Int.tmod a1 9)) + 1)) (wrap64 (Int.tmod a2 700)) ([] : List Int) 0)) else (some false))) = some r := h
  clear h
  replace H := Option.bind_eq_some_iff.mp H
  obtain ⟨t177, A40, H⟩ := H
  replace H : (if t177 = true then (if a0 = 0 then (some true) else (paternosterlaw20_TurnRounds.l0 k a0 (wrap64 ((wrap64 (Int.tmod a1 9)) + 1)) (wrap64 (Int.tmod a2 700)) ([] : List Int) 0)) else (some false)) = some r := H
  have A4 := Aside0.mk A40
  clear A40
  by_cases c5 : t177 = true
  · subst c5
    have H1 : (if a0 = 0 then (some true) else (paternosterlaw20_TurnRounds.l0 k a0 (wrap64 ((wrap64 (Int.tmod a1 9)) + 1)) (wrap64 (Int.tmod a2 700)) ([] : List Int) 0)) = some r := by rw [if_pos rfl] at H; exact H
    clear H
    have H := H1
    clear H1
    by_cases c6 : a0 = 0
    · rw [if_pos c6] at H
      have c6b0 : (a0 == 0) = true := beq_iff_eq.mpr c6
      have c6b1 : (a0 != 0) = false := bne_eq_false_iff_eq.mpr c6
      clear c6
      obtain rfl := Option.some.inj H
      go_enter Tryd.func5, Tryd.ntmps5
      go_wp2_with (first | (go_at_call 7; (with_reducible refine (paternosterlaw20_awake.calls  true _ A4.out ?sideL).mono ?_); (case sideL => exact laid_below LA.out (by repeat (first | (with_reducible first | exact HB.out | apply below_alloc | apply pw_below_drewN | apply below_drew1) | exact HB.out))); rintro e w7 ⟨rfl, hb⟩; have n0_ := Aside0.mk (below_step (by repeat (first | (with_reducible first | exact HB.out | apply below_alloc | apply pw_below_drewN | apply below_drew1) | exact HB.out)) hb); clear HB; have HB := n0_; clear n0_; (try clear hb); (try clear hb2); (try clear hk); (try clear hi)))
      repeat (go_quiet (first | (go_at_call 7; (with_reducible refine (paternosterlaw20_awake.calls  true _ A4.out ?sideL).mono ?_); (case sideL => exact laid_below LA.out (by repeat (first | (with_reducible first | exact HB.out | apply below_alloc | apply pw_below_drewN | apply below_drew1) | exact HB.out))); rintro e w7 ⟨rfl, hb⟩; have n0_ := Aside0.mk (below_step (by repeat (first | (with_reducible first | exact HB.out | apply below_alloc | apply pw_below_drewN | apply below_drew1) | exact HB.out)) hb); clear HB; have HB := n0_; clear n0_; (try clear hb); (try clear hb2); (try clear hk); (try clear hi))); try go_wp2_with (first | (go_at_call 7; (with_reducible refine (paternosterlaw20_awake.calls  true _ A4.out ?sideL).mono ?_); (case sideL => exact laid_below LA.out (by repeat (first | (with_reducible first | exact HB.out | apply below_alloc | apply pw_below_drewN | apply below_drew1) | exact HB.out))); rintro e w7 ⟨rfl, hb⟩; have n0_ := Aside0.mk (below_step (by repeat (first | (with_reducible first | exact HB.out | apply below_alloc | apply pw_below_drewN | apply below_drew1) | exact HB.out)) hb); clear HB; have HB := n0_; clear n0_; (try clear hb); (try clear hb2); (try clear hk); (try clear hi))))
      go_ret
      exact ⟨by first | rfl | (simp [errW_none, errW_some] <;> rfl) | (simp [*, errW_none, errW_some] <;> rfl), by repeat (first | (with_reducible first | exact HB.out | apply below_alloc | apply pw_below_drewN | apply below_drew1) | exact HB.out)⟩
    · rw [if_neg c6] at H
      have c6b0 : (a0 == 0) = false := beq_eq_false_iff_ne.mpr c6
      have c6b1 : (a0 != 0) = true := bne_iff_ne.mpr c6
      have H' := Aside0.mk H
      clear H
      go_enter Tryd.func5, Tryd.ntmps5
      go_wp2_with (first | (go_at_call 7; (with_reducible refine (paternosterlaw20_awake.calls  true _ A4.out ?sideL).mono ?_); (case sideL => exact laid_below LA.out (by repeat (first | (with_reducible first | exact HB.out | apply below_alloc | apply pw_below_drewN | apply below_drew1) | exact HB.out))); rintro e w8 ⟨rfl, hb⟩; have n0_ := Aside0.mk (below_step (by repeat (first | (with_reducible first | exact HB.out | apply below_alloc | apply pw_below_drewN | apply below_drew1) | exact HB.out)) hb); clear HB; have HB := n0_; clear n0_; (try clear hb); (try clear hb2); (try clear hk); (try clear hi)))
      repeat (go_quiet (first | (go_at_call 7; (with_reducible refine (paternosterlaw20_awake.calls  true _ A4.out ?sideL).mono ?_); (case sideL => exact laid_below LA.out (by repeat (first | (with_reducible first | exact HB.out | apply below_alloc | apply pw_below_drewN | apply below_drew1) | exact HB.out))); rintro e w8 ⟨rfl, hb⟩; have n0_ := Aside0.mk (below_step (by repeat (first | (with_reducible first | exact HB.out | apply below_alloc | apply pw_below_drewN | apply below_drew1) | exact HB.out)) hb); clear HB; have HB := n0_; clear n0_; (try clear hb); (try clear hb2); (try clear hk); (try clear hi))); try go_wp2_with (first | (go_at_call 7; (with_reducible refine (paternosterlaw20_awake.calls  true _ A4.out ?sideL).mono ?_); (case sideL => exact laid_below LA.out (by repeat (first | (with_reducible first | exact HB.out | apply below_alloc | apply pw_below_drewN | apply below_drew1) | exact HB.out))); rintro e w8 ⟨rfl, hb⟩; have n0_ := Aside0.mk (below_step (by repeat (first | (with_reducible first | exact HB.out | apply below_alloc | apply pw_below_drewN | apply below_drew1) | exact HB.out)) hb); clear HB; have HB := n0_; clear n0_; (try clear hb); (try clear hb2); (try clear hk); (try clear hi))))
      go_loopg [10, 11] k (fun kq v10 v11 w' => ∃ (x10_1 : List Int) (x11_1 : Int), v11 = .int .i64 x11_1 ∧ Aside0 (paternosterlaw20_TurnRounds.l0 kq a0 (wrap64 ((wrap64 (Int.tmod a1 9)) + 1)) (wrap64 (Int.tmod a2 700)) x10_1 x11_1 = some r) ∧ Aside0 (kq ≤ k) ∧ Aside0 (Kd.R (Kd.int .i64) 3 w' w.heap.size (fun _ => True) v10 x10_1) ∧ Aside0 (Below w.heap.size w w'))
      case atStart => exact ⟨(([] : List Int)), (0), (by first | rfl | (simp; done) | (simp [*]; done)), H', ⟨Nat.le_refl _⟩, ⟨by first | exact Kd.R_nil _ _ _ _ _ | exact Kd.N_nil _ _ _ _ _ | exact Kd.V_nil _ _ _ _ _ | exact Kd.Q_nil _ _ _ _ _ | exact Kd.S_nil _ _ _ _ _⟩, ⟨by repeat (first | (with_reducible first | exact HB.out | apply below_alloc | apply pw_below_drewN | apply below_drew1) | exact HB.out)⟩⟩
      case round =>
        clear H'
        try clear p2
        try clear c5
        try clear c6
        try clear c6b0
        try clear c6b1
        try clear p6
        obtain ⟨x10_1, x11_1, rfl, HA, HK1, HO_10, HB⟩ := hrel
        cases gk with
        | zero => exact absurd HA.out (by simp [paternosterlaw20_TurnRounds.l0])
        | succ k1 =>
          have H := HA.out
          clear HA
          simp only [paternosterlaw20_TurnRounds.l0] at H
          by_cases c9 : x11_1 < 64
          · rw [if_pos c9] at H
            have c9b0 : decide (x11_1 < 64) = true := decide_eq_true c9
            clear c9
            replace H := Option.bind_eq_some_iff.mp H
            obtain ⟨t178, A100, H⟩ := H
            replace H : (if t178 = true then (if x10_1.length < 17592186044416 then (paternosterlaw20_TurnRounds.l0 k1 a0 (wrap64 ((wrap64 (Int.tmod a1 9)) + 1)) (wrap64 (Int.tmod a2 700)) (x10_1 ++ [x11_1]) (wrap64 (x11_1 + 1))) else (none)) else (paternosterlaw20_TurnRounds.l0 k1 a0 (wrap64 ((wrap64 (Int.tmod a1 9)) + 1)) (wrap64 (Int.tmod a2 700)) x10_1 (wrap64 (x11_1 + 1)))) = some r := H
            have A10 := Aside0.mk A100
            clear A100
            by_cases c11 : t178 = true
            · subst c11
              have H1 : (if x10_1.length < 17592186044416 then (paternosterlaw20_TurnRounds.l0 k1 a0 (wrap64 ((wrap64 (Int.tmod a1 9)) + 1)) (wrap64 (Int.tmod a2 700)) (x10_1 ++ [x11_1]) (wrap64 (x11_1 + 1))) else (none)) = some r := by rw [if_pos rfl] at H; exact H
              clear H
              have H := H1
              clear H1
              by_cases c12 : x10_1.length < 17592186044416
              · rw [if_pos c12] at H
                have LMc12 := Aside0.mk c12
                clear c12
                obtain ⟨y179, hy179⟩ : ∃ y_ : List Int, y_ = (x10_1 ++ [x11_1]) := ⟨_, rfl⟩
                replace H : (paternosterlaw20_TurnRounds.l0 k1 a0 (wrap64 ((wrap64 (Int.tmod a1 9)) + 1)) (wrap64 (Int.tmod a2 700)) y179 (wrap64 (x11_1 + 1))) = some r := by first | (rw [hy179]; with_reducible exact H) | (have H2_ := (Option.bind_some _ _).symm.trans H; rw [hy179]; with_reducible exact H2_) | (have H2_ := (Option.bind_some _ _).symm.trans H; with_reducible exact H2_) | with_reducible exact H | (rw [hy179]; exact H) | exact H
                have Ny179 := Aside0.mk hy179
                clear hy179
                have H' := Aside0.mk H
                clear H
                go_wp2_with (first | (go_at_call 13; (with_reducible refine (order_Has.calls a0 x11_1 true _ A10.out).mono ?_); rintro e w' ⟨rfl, ⟨nd, rfl⟩⟩; (try first | exact ⟨rfl, _, World.drewN_drewN _ _ _⟩ | exact ⟨rfl, _, Eq.trans (World.drewN_drewN _ _ _) (congrArg (World.drewN _) (Nat.add_assoc _ _ _))⟩)) | ((with_reducible refine gate_builtin (b := .append) (xs := #[.tmp 33, .tmp 35]) rfl ?_); at_builtin; refine Kd.R_append (Kd.int .i64) (w0 := w) w.heap.size rfl (.tmp 33) (.tmp 35) 41 3 (.int .i64 0) 8 rfl Tryd.underlying41 info3 rfl (by decide) (by omega) u10 x10_1 x11_1 [.int .i64 x11_1] (fun _ => True) (fun _ => False) rfl rfl ?aP (fun _ hk => hk.elim) ?aF ?aO ?aB ?aS ?aL ?_; (case aP => exact rfl); (case aB => exact (by repeat (first | (with_reducible first | exact HB.out | apply below_alloc | apply pw_below_drewN | apply below_drew1) | exact HB.out))); (case aF => exact (fun _ _ => trivial)); (case aO => exact (by (with_reducible repeat (first | apply Kd.R_alloc | apply Kd.R_drewN | apply Kd.R_drew)); exact HO_10.out)); (case aS => exact (below_size (by repeat (first | (with_reducible first | exact HB.out | apply below_alloc | apply pw_below_drewN | apply below_drew1) | exact HB.out)))); (case aL => have := LMc12.out; omega); intro v180 w13 ho hb hg hat; rw [← Ny179.out] at ho; have n0_ := Aside0.mk (hb); have n1_ := Aside0.mk (ho); clear HB; clear HO_10; have HB := n0_; have HO181 := n1_; clear n0_ n1_; clear ho hb hg hat))
                repeat (go_quiet (first | (go_at_call 13; (with_reducible refine (order_Has.calls a0 x11_1 true _ A10.out).mono ?_); rintro e w' ⟨rfl, ⟨nd, rfl⟩⟩; (try first | exact ⟨rfl, _, World.drewN_drewN _ _ _⟩ | exact ⟨rfl, _, Eq.trans (World.drewN_drewN _ _ _) (congrArg (World.drewN _) (Nat.add_assoc _ _ _))⟩)) | ((with_reducible refine gate_builtin (b := .append) (xs := #[.tmp 33, .tmp 35]) rfl ?_); at_builtin; refine Kd.R_append (Kd.int .i64) (w0 := w) w.heap.size rfl (.tmp 33) (.tmp 35) 41 3 (.int .i64 0) 8 rfl Tryd.underlying41 info3 rfl (by decide) (by omega) u10 x10_1 x11_1 [.int .i64 x11_1] (fun _ => True) (fun _ => False) rfl rfl ?aP (fun _ hk => hk.elim) ?aF ?aO ?aB ?aS ?aL ?_; (case aP => exact rfl); (case aB => exact (by repeat (first | (with_reducible first | exact HB.out | apply below_alloc | apply pw_below_drewN | apply below_drew1) | exact HB.out))); (case aF => exact (fun _ _ => trivial)); (case aO => exact (by (with_reducible repeat (first | apply Kd.R_alloc | apply Kd.R_drewN | apply Kd.R_drew)); exact HO_10.out)); (case aS => exact (below_size (by repeat (first | (with_reducible first | exact HB.out | apply below_alloc | apply pw_below_drewN | apply below_drew1) | exact HB.out)))); (case aL => have := LMc12.out; omega); intro v180 w13 ho hb hg hat; rw [← Ny179.out] at ho; have n0_ := Aside0.mk (hb); have n1_ := Aside0.mk (ho); clear HB; clear HO_10; have HB := n0_; have HO181 := n1_; clear n0_ n1_; clear ho hb hg hat)); try go_wp2_with (first | (go_at_call 13; (with_reducible refine (order_Has.calls a0 x11_1 true _ A10.out).mono ?_); rintro e w' ⟨rfl, ⟨nd, rfl⟩⟩; (try first | exact ⟨rfl, _, World.drewN_drewN _ _ _⟩ | exact ⟨rfl, _, Eq.trans (World.drewN_drewN _ _ _) (congrArg (World.drewN _) (Nat.add_assoc _ _ _))⟩)) | ((with_reducible refine gate_builtin (b := .append) (xs := #[.tmp 33, .tmp 35]) rfl ?_); at_builtin; refine Kd.R_append (Kd.int .i64) (w0 := w) w.heap.size rfl (.tmp 33) (.tmp 35) 41 3 (.int .i64 0) 8 rfl Tryd.underlying41 info3 rfl (by decide) (by omega) u10 x10_1 x11_1 [.int .i64 x11_1] (fun _ => True) (fun _ => False) rfl rfl ?aP (fun _ hk => hk.elim) ?aF ?aO ?aB ?aS ?aL ?_; (case aP => exact rfl); (case aB => exact (by repeat (first | (with_reducible first | exact HB.out | apply below_alloc | apply pw_below_drewN | apply below_drew1) | exact HB.out))); (case aF => exact (fun _ _ => trivial)); (case aO => exact (by (with_reducible repeat (first | apply Kd.R_alloc | apply Kd.R_drewN | apply Kd.R_drew)); exact HO_10.out)); (case aS => exact (below_size (by repeat (first | (with_reducible first | exact HB.out | apply below_alloc | apply pw_below_drewN | apply below_drew1) | exact HB.out)))); (case aL => have := LMc12.out; omega); intro v180 w13 ho hb hg hat; rw [← Ny179.out] at ho; have n0_ := Aside0.mk (hb); have n1_ := Aside0.mk (ho); clear HB; clear HO_10; have HB := n0_; have HO181 := n1_; clear n0_ n1_; clear ho hb hg hat)))
                go_roundg k1
                case measure => have := HK1.out; omega
                case rel => exact ⟨(y179), (wrap64 (x11_1 + 1)), (by first | rfl | (simp; done) | (simp [*]; done)), H', ⟨by have := HK1.out; omega⟩, ⟨by (with_reducible repeat (first | apply Kd.R_alloc | apply Kd.R_drewN | apply Kd.R_drew)); exact HO181.out⟩, ⟨by repeat (first | (with_reducible first | exact HB.out | apply below_alloc | apply pw_below_drewN | apply below_drew1) | exact HB.out)⟩⟩
              · rw [if_neg c12] at H
                exact absurd H (by simp)
            · replace c11 := Bool.eq_false_iff.mpr c11
              subst c11
              have H1 : (paternosterlaw20_TurnRounds.l0 k1 a0 (wrap64 ((wrap64 (Int.tmod a1 9)) + 1)) (wrap64 (Int.tmod a2 700)) x10_1 (wrap64 (x11_1 + 1))) = some r := by rw [if_neg (show ¬ (false = true) by decide)] at H; exact H
              clear H
              have H := H1
              clear H1
              have H' := Aside0.mk H
              clear H
              go_wp2_with (first | (go_at_call 13; (with_reducible refine (order_Has.calls a0 x11_1 false _ A10.out).mono ?_); rintro e w' ⟨rfl, ⟨nd, rfl⟩⟩; (try first | exact ⟨rfl, _, World.drewN_drewN _ _ _⟩ | exact ⟨rfl, _, Eq.trans (World.drewN_drewN _ _ _) (congrArg (World.drewN _) (Nat.add_assoc _ _ _))⟩)))
              repeat (go_quiet (first | (go_at_call 13; (with_reducible refine (order_Has.calls a0 x11_1 false _ A10.out).mono ?_); rintro e w' ⟨rfl, ⟨nd, rfl⟩⟩; (try first | exact ⟨rfl, _, World.drewN_drewN _ _ _⟩ | exact ⟨rfl, _, Eq.trans (World.drewN_drewN _ _ _) (congrArg (World.drewN _) (Nat.add_assoc _ _ _))⟩))); try go_wp2_with (first | (go_at_call 13; (with_reducible refine (order_Has.calls a0 x11_1 false _ A10.out).mono ?_); rintro e w' ⟨rfl, ⟨nd, rfl⟩⟩; (try first | exact ⟨rfl, _, World.drewN_drewN _ _ _⟩ | exact ⟨rfl, _, Eq.trans (World.drewN_drewN _ _ _) (congrArg (World.drewN _) (Nat.add_assoc _ _ _))⟩))))
              go_roundg k1
              case measure => have := HK1.out; omega
              case rel => exact ⟨(x10_1), (wrap64 (x11_1 + 1)), (by first | rfl | (simp; done) | (simp [*]; done)), H', ⟨by have := HK1.out; omega⟩, ⟨by (with_reducible repeat (first | apply Kd.R_alloc | apply Kd.R_drewN | apply Kd.R_drew)); exact HO_10.out⟩, ⟨by repeat (first | (with_reducible first | exact HB.out | apply below_alloc | apply pw_below_drewN | apply below_drew1) | exact HB.out)⟩⟩
          · rw [if_neg c9] at H
            have c9b0 : decide (x11_1 < 64) = false := decide_eq_false c9
            clear c9
            replace H := Option.bind_eq_some_iff.mp H
            obtain ⟨⟨t182, t183⟩, A140, H⟩ := H
            replace H : (paternosterlaw20_TurnRounds.l1 k1 a0 (wrap64 ((wrap64 (Int.tmod a1 9)) + 1)) (wrap64 (Int.tmod a2 700)) x10_1 0 t182 t183) = some r := H
            have A14 := Aside0.mk A140
            clear A140
            have H' := Aside0.mk H
            clear H
            go_wp2_with (first | (go_at_call 12; (with_reducible refine (turn_None.calls  t182 t183 _ A14.out).mono ?_); rintro e w15 ⟨rfl, hb⟩; have n0_ := Aside0.mk (Kd.R_below (by (with_reducible repeat (first | apply Kd.R_alloc | apply Kd.R_drewN | apply Kd.R_drew)); exact HO_10.out) hb); have n1_ := Aside0.mk (below_step (by repeat (first | (with_reducible first | exact HB.out | apply below_alloc | apply pw_below_drewN | apply below_drew1) | exact HB.out)) hb); clear HO_10; clear HB; have HO_10 := n0_; have HB := n1_; clear n0_ n1_; (try clear hb); (try clear hb2); (try clear hk); (try clear hi)) | ((with_reducible refine gate_dst (N := 12) rfl ?_); refine box_event ?hg (N := 12) ?hd (cs := #[.int .i64 0, .int .i64 0]) (t := 23) ?hr ?_; (case hd => rfl); (case hg => rfl); (case hr => first | (go_simp; done) | (go_simp; rfl)); intro gb184 hg w16 hbox hb; have n0_ := Aside0.mk (Kd.R_below (by (with_reducible repeat (first | apply Kd.R_alloc | apply Kd.R_drewN | apply Kd.R_drew)); exact HO_10.out) hb); have n1_ := Aside0.mk (below_step (by repeat (first | (with_reducible first | exact HB.out | apply below_alloc | apply pw_below_drewN | apply below_drew1) | exact HB.out)) hb); have n2_ := Aside0.mk (hbox); have n3_ := Aside0.mk ((by rw [hg]; exact (below_size (by repeat (first | (with_reducible first | exact HB.out | apply below_alloc | apply pw_below_drewN | apply below_drew1) | exact HB.out))) : w.heap.size ≤ gb184)); have n4_ := Aside0.mk ((by rw [hg]; exact (below_size (by repeat (first | (with_reducible first | exact HB.out | apply below_alloc | apply pw_below_drewN | apply below_drew1) | exact HB.out))) : w.heap.size ≤ gb184)); clear HO_10; clear HB; have HO_10 := n0_; have HB := n1_; have BK184 := n2_; have GW184 := n3_; have GE184 := n4_; clear n0_ n1_ n2_ n3_ n4_; clear hb hbox hg; have hcz17_0 : w16.cell? ⟨gb184, 0, none⟩ = some (.int .i64 0) := (blk_cell BK184.out 0).trans rfl; have hcz17_1 : w16.cell? ⟨gb184, 1, none⟩ = some (.int .i64 0) := (blk_cell BK184.out 1).trans rfl; have hfz17_0 := blk_frozen BK184.out 0; have hfz17_1 := blk_frozen BK184.out 1))
            repeat (go_quiet (first | (go_at_call 12; (with_reducible refine (turn_None.calls  t182 t183 _ A14.out).mono ?_); rintro e w15 ⟨rfl, hb⟩; have n0_ := Aside0.mk (Kd.R_below (by (with_reducible repeat (first | apply Kd.R_alloc | apply Kd.R_drewN | apply Kd.R_drew)); exact HO_10.out) hb); have n1_ := Aside0.mk (below_step (by repeat (first | (with_reducible first | exact HB.out | apply below_alloc | apply pw_below_drewN | apply below_drew1) | exact HB.out)) hb); clear HO_10; clear HB; have HO_10 := n0_; have HB := n1_; clear n0_ n1_; (try clear hb); (try clear hb2); (try clear hk); (try clear hi)) | ((with_reducible refine gate_dst (N := 12) rfl ?_); refine box_event ?hg (N := 12) ?hd (cs := #[.int .i64 0, .int .i64 0]) (t := 23) ?hr ?_; (case hd => rfl); (case hg => rfl); (case hr => first | (go_simp; done) | (go_simp; rfl)); intro gb184 hg w16 hbox hb; have n0_ := Aside0.mk (Kd.R_below (by (with_reducible repeat (first | apply Kd.R_alloc | apply Kd.R_drewN | apply Kd.R_drew)); exact HO_10.out) hb); have n1_ := Aside0.mk (below_step (by repeat (first | (with_reducible first | exact HB.out | apply below_alloc | apply pw_below_drewN | apply below_drew1) | exact HB.out)) hb); have n2_ := Aside0.mk (hbox); have n3_ := Aside0.mk ((by rw [hg]; exact (below_size (by repeat (first | (with_reducible first | exact HB.out | apply below_alloc | apply pw_below_drewN | apply below_drew1) | exact HB.out))) : w.heap.size ≤ gb184)); have n4_ := Aside0.mk ((by rw [hg]; exact (below_size (by repeat (first | (with_reducible first | exact HB.out | apply below_alloc | apply pw_below_drewN | apply below_drew1) | exact HB.out))) : w.heap.size ≤ gb184)); clear HO_10; clear HB; have HO_10 := n0_; have HB := n1_; have BK184 := n2_; have GW184 := n3_; have GE184 := n4_; clear n0_ n1_ n2_ n3_ n4_; clear hb hbox hg; have hcz17_0 : w16.cell? ⟨gb184, 0, none⟩ = some (.int .i64 0) := (blk_cell BK184.out 0).trans rfl; have hcz17_1 : w16.cell? ⟨gb184, 1, none⟩ = some (.int .i64 0) := (blk_cell BK184.out 1).trans rfl; have hfz17_0 := blk_frozen BK184.out 0; have hfz17_1 := blk_frozen BK184.out 1)); try go_wp2_with (first | (go_at_call 12; (with_reducible refine (turn_None.calls  t182 t183 _ A14.out).mono ?_); rintro e w15 ⟨rfl, hb⟩; have n0_ := Aside0.mk (Kd.R_below (by (with_reducible repeat (first | apply Kd.R_alloc | apply Kd.R_drewN | apply Kd.R_drew)); exact HO_10.out) hb); have n1_ := Aside0.mk (below_step (by repeat (first | (with_reducible first | exact HB.out | apply below_alloc | apply pw_below_drewN | apply below_drew1) | exact HB.out)) hb); clear HO_10; clear HB; have HO_10 := n0_; have HB := n1_; clear n0_ n1_; (try clear hb); (try clear hb2); (try clear hk); (try clear hi)) | ((with_reducible refine gate_dst (N := 12) rfl ?_); refine box_event ?hg (N := 12) ?hd (cs := #[.int .i64 0, .int .i64 0]) (t := 23) ?hr ?_; (case hd => rfl); (case hg => rfl); (case hr => first | (go_simp; done) | (go_simp; rfl)); intro gb184 hg w16 hbox hb; have n0_ := Aside0.mk (Kd.R_below (by (with_reducible repeat (first | apply Kd.R_alloc | apply Kd.R_drewN | apply Kd.R_drew)); exact HO_10.out) hb); have n1_ := Aside0.mk (below_step (by repeat (first | (with_reducible first | exact HB.out | apply below_alloc | apply pw_below_drewN | apply below_drew1) | exact HB.out)) hb); have n2_ := Aside0.mk (hbox); have n3_ := Aside0.mk ((by rw [hg]; exact (below_size (by repeat (first | (with_reducible first | exact HB.out | apply below_alloc | apply pw_below_drewN | apply below_drew1) | exact HB.out))) : w.heap.size ≤ gb184)); have n4_ := Aside0.mk ((by rw [hg]; exact (below_size (by repeat (first | (with_reducible first | exact HB.out | apply below_alloc | apply pw_below_drewN | apply below_drew1) | exact HB.out))) : w.heap.size ≤ gb184)); clear HO_10; clear HB; have HO_10 := n0_; have HB := n1_; have BK184 := n2_; have GW184 := n3_; have GE184 := n4_; clear n0_ n1_ n2_ n3_ n4_; clear hb hbox hg; have hcz17_0 : w16.cell? ⟨gb184, 0, none⟩ = some (.int .i64 0) := (blk_cell BK184.out 0).trans rfl; have hcz17_1 : w16.cell? ⟨gb184, 1, none⟩ = some (.int .i64 0) := (blk_cell BK184.out 1).trans rfl; have hfz17_0 := blk_frozen BK184.out 0; have hfz17_1 := blk_frozen BK184.out 1)))
            go_loopg [13] k1 (fun kq v13 w' => ∃ (x13_2 : Int) (x185000_2 : Int) (x185001_2 : Int), v13 = .int .i64 x13_2 ∧ Aside0 (paternosterlaw20_TurnRounds.l1 kq a0 (wrap64 ((wrap64 (Int.tmod a1 9)) + 1)) (wrap64 (Int.tmod a2 700)) x10_1 x13_2 x185000_2 x185001_2 = some r) ∧ Aside0 (kq ≤ k1) ∧ Aside0 (Kd.R (Kd.int .i64) 3 w' w.heap.size (fun _ => True) u10 x10_1) ∧ Aside0 (w'.heap[gb184]? = some (.cells #[.int .i64 x185000_2, .int .i64 x185001_2] 23 (0, 0))) ∧ Aside0 (Below w.heap.size w w'))
            case atStart => exact ⟨(0), (t182), (t183), (by first | rfl | (simp; done) | (simp [*]; done)), H', ⟨Nat.le_refl _⟩, ⟨by (with_reducible repeat (first | apply Kd.R_alloc | apply Kd.R_drewN | apply Kd.R_drew)); exact Kd.R_mono (Kd.R_far (p := ⟨gb184, 1, none⟩) (Kd.R_far (p := ⟨gb184, 0, none⟩) (Kd.R_types HO_10.out BK184.out (by decide)) (fun _ hk => hk.2) (.int .i64 t182)) (fun _ hk => hk.2) (.int .i64 t183)) (fun _ hk => trivial)⟩, ⟨by (with_reducible repeat (first | refine blk_drewN ?_ _ | refine blk_drew ?_ | refine blk_alloc ?_ _)); refine blk_put (cs := #[.int .i64 t182, .int .i64 0]) ?_ 1 _ rfl; (with_reducible repeat (first | refine blk_drewN ?_ _ | refine blk_drew ?_ | refine blk_alloc ?_ _)); refine blk_put (cs := #[.int .i64 0, .int .i64 0]) ?_ 0 _ rfl; (with_reducible repeat (first | refine blk_drewN ?_ _ | refine blk_drew ?_ | refine blk_alloc ?_ _)); exact BK184.out⟩, ⟨by repeat (first | (with_reducible first | exact HB.out | apply below_alloc | apply pw_below_drewN | apply below_drew1 | refine below_set ?_ GE184.out) | exact HB.out)⟩⟩
            case round =>
              clear H'
              try clear c1
              try clear p2
              try clear c5
              try clear c6
              try clear c6b0
              try clear c6b1
              try clear p6
              try clear c9
              try clear c9b0
              try clear c11
              try clear c12
              try clear hcz17_0
              try clear hcz17_1
              try clear hfz17_0
              try clear hfz17_1
              try clear p2
              try clear p6
              obtain ⟨x13_2, x185000_2, x185001_2, rfl, HA, HK2, HO_10, BK184, HB⟩ := hrel
              cases gk with
              | zero => exact absurd HA.out (by simp [paternosterlaw20_TurnRounds.l1])
              | succ k2 =>
                have H := HA.out
                clear HA
                simp only [paternosterlaw20_TurnRounds.l1] at H
                by_cases c18 : x13_2 < (wrap64 (Int.tmod a2 700))
                · rw [if_pos c18] at H
                  have c18b0 : decide (x13_2 < (wrap64 (Int.tmod a2 700))) = true := decide_eq_true c18
                  clear c18
                  replace H := Option.bind_eq_some_iff.mp H
                  obtain ⟨⟨t185, t186⟩, A190, H⟩ := H
                  replace H : (if (wrap64 ((wrap64 (Int.tmod a1 9)) + 1)) = 0 then (none) else (if (x10_1.length : Int) = 0 then (none) else (if 0 ≤ (Int.tmod (wrap64 (Int.tdiv x13_2 (wrap64 ((wrap64 (Int.tmod a1 9)) + 1)))) (x10_1.length : Int)) then (if (Int.tmod (wrap64 (Int.tdiv x13_2 (wrap64 ((wrap64 (Int.tmod a1 9)) + 1)))) (x10_1.length : Int)) < (x10_1.length : Int) then (if t185 = (rd x10_1 (Int.tmod (wrap64 (Int.tdiv x13_2 (wrap64 ((wrap64 (Int.tmod a1 9)) + 1)))) (x10_1.length : Int))) then (paternosterlaw20_TurnRounds.l1 k2 a0 (wrap64 ((wrap64 (Int.tmod a1 9)) + 1)) (wrap64 (Int.tmod a2 700)) x10_1 (wrap64 (x13_2 + 1)) t185 t186) else (some false)) else (none)) else (none)))) = some r := H
                  have A19 := Aside0.mk A190
                  clear A190
                  by_cases c20 : (wrap64 ((wrap64 (Int.tmod a1 9)) + 1)) = 0
                  · rw [if_pos c20] at H
                    exact absurd H (by simp)
                  · rw [if_neg c20] at H
                    have c20b0 : ((wrap64 ((wrap64 (Int.tmod a1 9)) + 1)) == 0) = false := beq_eq_false_iff_ne.mpr c20
                    have c20b1 : ((wrap64 ((wrap64 (Int.tmod a1 9)) + 1)) != 0) = true := bne_iff_ne.mpr c20
                    by_cases c21 : (x10_1.length : Int) = 0
                    · rw [if_pos c21] at H
                      exact absurd H (by simp)
                    · rw [if_neg c21] at H
                      have c21b0 : ((x10_1.length : Int) == 0) = false := beq_eq_false_iff_ne.mpr c21
                      have c21b1 : ((x10_1.length : Int) != 0) = true := bne_iff_ne.mpr c21
                      have c21b2 : ¬ (x10_1 = []) := fun h_ => c21 (by rw [h_]; rfl)
                      obtain ⟨ji22, hji22⟩ : ∃ j_ : Int, (Int.tmod (wrap64 (Int.tdiv x13_2 (wrap64 ((wrap64 (Int.tmod a1 9)) + 1)))) (x10_1.length : Int)) = j_ := ⟨_, rfl⟩
                      replace H : (if 0 ≤ (ji22) then (if (ji22) < (x10_1.length : Int) then (if t185 = (rd x10_1 (ji22)) then (paternosterlaw20_TurnRounds.l1 k2 a0 (wrap64 ((wrap64 (Int.tmod a1 9)) + 1)) (wrap64 (Int.tmod a2 700)) x10_1 (wrap64 (x13_2 + 1)) t185 t186) else (some false)) else (none)) else (none)) = some r := by first | (rw [hji22] at H; exact H) | (simp only [hji22] at H ⊢; exact H)
                      (try rw [hji22] at A19)
                      by_cases c23 : 0 ≤ (ji22)
                      · rw [if_pos c23] at H
                        have c23b0 : decide (0 ≤ (ji22)) = true := decide_eq_true c23
                        clear c23
                        by_cases c24 : (ji22) < (x10_1.length : Int)
                        · rw [if_pos c24] at H
                          have c24b0 : decide ((ji22) < (x10_1.length : Int)) = true := decide_eq_true c24
                          clear c24
                          by_cases c25 : t185 = (rd x10_1 (ji22))
                          · rw [if_pos c25] at H
                            have c25b0 : (t185 == (rd x10_1 (ji22))) = true := beq_iff_eq.mpr c25
                            have c25b1 : (t185 != (rd x10_1 (ji22))) = false := bne_eq_false_iff_eq.mpr c25
                            clear c25
                            have H' := Aside0.mk H
                            clear H
                            have hcz26_0 : wr.cell? ⟨gb184, 0, none⟩ = some (.int .i64 x185000_2) := (blk_cell BK184.out 0).trans rfl
                            have hcz26_1 : wr.cell? ⟨gb184, 1, none⟩ = some (.int .i64 x185001_2) := (blk_cell BK184.out 1).trans rfl
                            have hfz26_0 := blk_frozen BK184.out 0
                            have hfz26_1 := blk_frozen BK184.out 1
                            go_wp2_with (first | (go_at_call 8; (with_reducible refine (turn_Turn_Step.calls x185000_2 x185001_2 a0 false (wrap64 ((wrap64 (Int.tmod a1 9)) + 1)) t185 t186 _ A19.out ?sideL).mono ?_); (case sideL => exact laid_below LA.out (by repeat (first | (with_reducible first | exact HB.out | apply below_alloc | apply pw_below_drewN | apply below_drew1 | refine below_set ?_ GE184.out) | exact HB.out))); rintro e w27 ⟨rfl, hb⟩; have n0_ := Aside0.mk (Kd.R_below (by (with_reducible repeat (first | apply Kd.R_alloc | apply Kd.R_drewN | apply Kd.R_drew)); exact HO_10.out) hb); have n1_ := Aside0.mk (blk_below (g := gb184) (o := .cells #[.int .i64 x185000_2, .int .i64 x185001_2] 23 (0, 0)) (by (with_reducible repeat (first | refine blk_drewN ?_ _ | refine blk_drew ?_ | refine blk_alloc ?_ _)); exact BK184.out) hb); have n2_ := Aside0.mk (below_step (by repeat (first | (with_reducible first | exact HB.out | apply below_alloc | apply pw_below_drewN | apply below_drew1 | refine below_set ?_ GE184.out) | exact HB.out)) hb); clear HO_10; clear BK184; clear HB; have HO_10 := n0_; have BK184 := n1_; have HB := n2_; clear n0_ n1_ n2_; (try clear hb); (try clear hb2); (try clear hk); (try clear hi); have hcz28_0 : w27.cell? ⟨gb184, 0, none⟩ = some (.int .i64 x185000_2) := (blk_cell BK184.out 0).trans rfl; have hcz28_1 : w27.cell? ⟨gb184, 1, none⟩ = some (.int .i64 x185001_2) := (blk_cell BK184.out 1).trans rfl; have hfz28_0 := blk_frozen BK184.out 0; have hfz28_1 := blk_frozen BK184.out 1; obtain ⟨Ao29, co29, eo29⟩ := Kd.R_slice HO_10.out; subst eo29; have p187 : 0 ≤ ((ji22) : Int) := of_decide_eq_true (by first | (with_reducible assumption) | assumption); have q187 : (ji22) < (x10_1.length : Int) := of_decide_eq_true (by first | (with_reducible assumption) | assumption); obtain ⟨ad187, e187, hx187_0⟩ := Kd.at_int (Kd.R_reads' HO_10.out).2.2 (ji22) p187 q187; cases e187; have hn187_0 : ad187.block ≠ gb184 := Kd.own_blk (Kd.R_ne HO_10.out BK184.out (by decide)); have hn187_1 : ad187.block ≠ gb184 := Kd.own_blk (Kd.R_ne HO_10.out BK184.out (by decide)); replace hx187_0 := (cell_far (p := ⟨gb184, 0, none⟩) (by first | (rw [add_block]; exact hn187_0) | (show (Addr.add _ _).block ≠ _; rw [add_block]; exact hn187_0) | exact hn187_0) (.int .i64 t185)).trans hx187_0; replace hx187_0 := (cell_far (p := ⟨gb184, 1, none⟩) (by first | (rw [add_block]; exact hn187_1) | (show (Addr.add _ _).block ≠ _; rw [add_block]; exact hn187_1) | exact hn187_1) (.int .i64 t186)).trans hx187_0; (try have hy187_0 := fun (n_ : Nat) => (show ((((w27.drewN n_).setCell ⟨gb184, 0, none⟩ (.int .i64 t185)).setCell ⟨gb184, 1, none⟩ (.int .i64 t186))).cell? _ = some _ from hx187_0)); clear hn187_0; clear hn187_1; replace p187 := eq_true p187; replace q187 := eq_true q187))
                            repeat (go_quiet (first | (go_at_call 8; (with_reducible refine (turn_Turn_Step.calls x185000_2 x185001_2 a0 false (wrap64 ((wrap64 (Int.tmod a1 9)) + 1)) t185 t186 _ A19.out ?sideL).mono ?_); (case sideL => exact laid_below LA.out (by repeat (first | (with_reducible first | exact HB.out | apply below_alloc | apply pw_below_drewN | apply below_drew1 | refine below_set ?_ GE184.out) | exact HB.out))); rintro e w27 ⟨rfl, hb⟩; have n0_ := Aside0.mk (Kd.R_below (by (with_reducible repeat (first | apply Kd.R_alloc | apply Kd.R_drewN | apply Kd.R_drew)); exact HO_10.out) hb); have n1_ := Aside0.mk (blk_below (g := gb184) (o := .cells #[.int .i64 x185000_2, .int .i64 x185001_2] 23 (0, 0)) (by (with_reducible repeat (first | refine blk_drewN ?_ _ | refine blk_drew ?_ | refine blk_alloc ?_ _)); exact BK184.out) hb); have n2_ := Aside0.mk (below_step (by repeat (first | (with_reducible first | exact HB.out | apply below_alloc | apply pw_below_drewN | apply below_drew1 | refine below_set ?_ GE184.out) | exact HB.out)) hb); clear HO_10; clear BK184; clear HB; have HO_10 := n0_; have BK184 := n1_; have HB := n2_; clear n0_ n1_ n2_; (try clear hb); (try clear hb2); (try clear hk); (try clear hi); have hcz28_0 : w27.cell? ⟨gb184, 0, none⟩ = some (.int .i64 x185000_2) := (blk_cell BK184.out 0).trans rfl; have hcz28_1 : w27.cell? ⟨gb184, 1, none⟩ = some (.int .i64 x185001_2) := (blk_cell BK184.out 1).trans rfl; have hfz28_0 := blk_frozen BK184.out 0; have hfz28_1 := blk_frozen BK184.out 1; obtain ⟨Ao29, co29, eo29⟩ := Kd.R_slice HO_10.out; subst eo29; have p187 : 0 ≤ ((ji22) : Int) := of_decide_eq_true (by first | (with_reducible assumption) | assumption); have q187 : (ji22) < (x10_1.length : Int) := of_decide_eq_true (by first | (with_reducible assumption) | assumption); obtain ⟨ad187, e187, hx187_0⟩ := Kd.at_int (Kd.R_reads' HO_10.out).2.2 (ji22) p187 q187; cases e187; have hn187_0 : ad187.block ≠ gb184 := Kd.own_blk (Kd.R_ne HO_10.out BK184.out (by decide)); have hn187_1 : ad187.block ≠ gb184 := Kd.own_blk (Kd.R_ne HO_10.out BK184.out (by decide)); replace hx187_0 := (cell_far (p := ⟨gb184, 0, none⟩) (by first | (rw [add_block]; exact hn187_0) | (show (Addr.add _ _).block ≠ _; rw [add_block]; exact hn187_0) | exact hn187_0) (.int .i64 t185)).trans hx187_0; replace hx187_0 := (cell_far (p := ⟨gb184, 1, none⟩) (by first | (rw [add_block]; exact hn187_1) | (show (Addr.add _ _).block ≠ _; rw [add_block]; exact hn187_1) | exact hn187_1) (.int .i64 t186)).trans hx187_0; (try have hy187_0 := fun (n_ : Nat) => (show ((((w27.drewN n_).setCell ⟨gb184, 0, none⟩ (.int .i64 t185)).setCell ⟨gb184, 1, none⟩ (.int .i64 t186))).cell? _ = some _ from hx187_0)); clear hn187_0; clear hn187_1; replace p187 := eq_true p187; replace q187 := eq_true q187)); try go_wp2_with (first | (go_at_call 8; (with_reducible refine (turn_Turn_Step.calls x185000_2 x185001_2 a0 false (wrap64 ((wrap64 (Int.tmod a1 9)) + 1)) t185 t186 _ A19.out ?sideL).mono ?_); (case sideL => exact laid_below LA.out (by repeat (first | (with_reducible first | exact HB.out | apply below_alloc | apply pw_below_drewN | apply below_drew1 | refine below_set ?_ GE184.out) | exact HB.out))); rintro e w27 ⟨rfl, hb⟩; have n0_ := Aside0.mk (Kd.R_below (by (with_reducible repeat (first | apply Kd.R_alloc | apply Kd.R_drewN | apply Kd.R_drew)); exact HO_10.out) hb); have n1_ := Aside0.mk (blk_below (g := gb184) (o := .cells #[.int .i64 x185000_2, .int .i64 x185001_2] 23 (0, 0)) (by (with_reducible repeat (first | refine blk_drewN ?_ _ | refine blk_drew ?_ | refine blk_alloc ?_ _)); exact BK184.out) hb); have n2_ := Aside0.mk (below_step (by repeat (first | (with_reducible first | exact HB.out | apply below_alloc | apply pw_below_drewN | apply below_drew1 | refine below_set ?_ GE184.out) | exact HB.out)) hb); clear HO_10; clear BK184; clear HB; have HO_10 := n0_; have BK184 := n1_; have HB := n2_; clear n0_ n1_ n2_; (try clear hb); (try clear hb2); (try clear hk); (try clear hi); have hcz28_0 : w27.cell? ⟨gb184, 0, none⟩ = some (.int .i64 x185000_2) := (blk_cell BK184.out 0).trans rfl; have hcz28_1 : w27.cell? ⟨gb184, 1, none⟩ = some (.int .i64 x185001_2) := (blk_cell BK184.out 1).trans rfl; have hfz28_0 := blk_frozen BK184.out 0; have hfz28_1 := blk_frozen BK184.out 1; obtain ⟨Ao29, co29, eo29⟩ := Kd.R_slice HO_10.out; subst eo29; have p187 : 0 ≤ ((ji22) : Int) := of_decide_eq_true (by first | (with_reducible assumption) | assumption); have q187 : (ji22) < (x10_1.length : Int) := of_decide_eq_true (by first | (with_reducible assumption) | assumption); obtain ⟨ad187, e187, hx187_0⟩ := Kd.at_int (Kd.R_reads' HO_10.out).2.2 (ji22) p187 q187; cases e187; have hn187_0 : ad187.block ≠ gb184 := Kd.own_blk (Kd.R_ne HO_10.out BK184.out (by decide)); have hn187_1 : ad187.block ≠ gb184 := Kd.own_blk (Kd.R_ne HO_10.out BK184.out (by decide)); replace hx187_0 := (cell_far (p := ⟨gb184, 0, none⟩) (by first | (rw [add_block]; exact hn187_0) | (show (Addr.add _ _).block ≠ _; rw [add_block]; exact hn187_0) | exact hn187_0) (.int .i64 t185)).trans hx187_0; replace hx187_0 := (cell_far (p := ⟨gb184, 1, none⟩) (by first | (rw [add_block]; exact hn187_1) | (show (Addr.add _ _).block ≠ _; rw [add_block]; exact hn187_1) | exact hn187_1) (.int .i64 t186)).trans hx187_0; (try have hy187_0 := fun (n_ : Nat) => (show ((((w27.drewN n_).setCell ⟨gb184, 0, none⟩ (.int .i64 t185)).setCell ⟨gb184, 1, none⟩ (.int .i64 t186))).cell? _ = some _ from hx187_0)); clear hn187_0; clear hn187_1; replace p187 := eq_true p187; replace q187 := eq_true q187)))
                            go_roundg k2
                            case measure => have := HK1.out; have := HK2.out; omega
                            case rel => exact ⟨(wrap64 (x13_2 + 1)), (t185), (t186), (by first | rfl | (simp; done) | (simp [*]; done)), H', ⟨by have := HK1.out; have := HK2.out; omega⟩, ⟨by (with_reducible repeat (first | apply Kd.R_alloc | apply Kd.R_drewN | apply Kd.R_drew)); exact Kd.R_mono (Kd.R_far (p := ⟨gb184, 1, none⟩) (Kd.R_far (p := ⟨gb184, 0, none⟩) (Kd.R_types HO_10.out BK184.out (by decide)) (fun _ hk => hk.2) (.int .i64 t185)) (fun _ hk => hk.2) (.int .i64 t186)) (fun _ hk => trivial)⟩, ⟨by (with_reducible repeat (first | refine blk_drewN ?_ _ | refine blk_drew ?_ | refine blk_alloc ?_ _)); refine blk_put (cs := #[.int .i64 t185, .int .i64 x185001_2]) ?_ 1 _ rfl; (with_reducible repeat (first | refine blk_drewN ?_ _ | refine blk_drew ?_ | refine blk_alloc ?_ _)); refine blk_put (cs := #[.int .i64 x185000_2, .int .i64 x185001_2]) ?_ 0 _ rfl; (with_reducible repeat (first | refine blk_drewN ?_ _ | refine blk_drew ?_ | refine blk_alloc ?_ _)); exact BK184.out⟩, ⟨by repeat (first | (with_reducible first | exact HB.out | apply below_alloc | apply pw_below_drewN | apply below_drew1 | refine below_set ?_ GE184.out) | exact HB.out)⟩⟩
                          · rw [if_neg c25] at H
                            have c25b0 : (t185 == (rd x10_1 (ji22))) = false := beq_eq_false_iff_ne.mpr c25
                            have c25b1 : (t185 != (rd x10_1 (ji22))) = true := bne_iff_ne.mpr c25
                            obtain rfl := Option.some.inj H
                            have hcz30_0 : wr.cell? ⟨gb184, 0, none⟩ = some (.int .i64 x185000_2) := (blk_cell BK184.out 0).trans rfl
                            have hcz30_1 : wr.cell? ⟨gb184, 1, none⟩ = some (.int .i64 x185001_2) := (blk_cell BK184.out 1).trans rfl
                            have hfz30_0 := blk_frozen BK184.out 0
                            have hfz30_1 := blk_frozen BK184.out 1
                            go_wp2_with (first | (go_at_call 8; (with_reducible refine (turn_Turn_Step.calls x185000_2 x185001_2 a0 false (wrap64 ((wrap64 (Int.tmod a1 9)) + 1)) t185 t186 _ A19.out ?sideL).mono ?_); (case sideL => exact laid_below LA.out (by repeat (first | (with_reducible first | exact HB.out | apply below_alloc | apply pw_below_drewN | apply below_drew1 | refine below_set ?_ GE184.out) | exact HB.out))); rintro e w31 ⟨rfl, hb⟩; have n0_ := Aside0.mk (Kd.R_below (by (with_reducible repeat (first | apply Kd.R_alloc | apply Kd.R_drewN | apply Kd.R_drew)); exact HO_10.out) hb); have n1_ := Aside0.mk (blk_below (g := gb184) (o := .cells #[.int .i64 x185000_2, .int .i64 x185001_2] 23 (0, 0)) (by (with_reducible repeat (first | refine blk_drewN ?_ _ | refine blk_drew ?_ | refine blk_alloc ?_ _)); exact BK184.out) hb); have n2_ := Aside0.mk (below_step (by repeat (first | (with_reducible first | exact HB.out | apply below_alloc | apply pw_below_drewN | apply below_drew1 | refine below_set ?_ GE184.out) | exact HB.out)) hb); clear HO_10; clear BK184; clear HB; have HO_10 := n0_; have BK184 := n1_; have HB := n2_; clear n0_ n1_ n2_; (try clear hb); (try clear hb2); (try clear hk); (try clear hi); have hcz32_0 : w31.cell? ⟨gb184, 0, none⟩ = some (.int .i64 x185000_2) := (blk_cell BK184.out 0).trans rfl; have hcz32_1 : w31.cell? ⟨gb184, 1, none⟩ = some (.int .i64 x185001_2) := (blk_cell BK184.out 1).trans rfl; have hfz32_0 := blk_frozen BK184.out 0; have hfz32_1 := blk_frozen BK184.out 1; obtain ⟨Ao33, co33, eo33⟩ := Kd.R_slice HO_10.out; subst eo33; have p187 : 0 ≤ ((ji22) : Int) := of_decide_eq_true (by first | (with_reducible assumption) | assumption); have q187 : (ji22) < (x10_1.length : Int) := of_decide_eq_true (by first | (with_reducible assumption) | assumption); obtain ⟨ad187, e187, hx187_0⟩ := Kd.at_int (Kd.R_reads' HO_10.out).2.2 (ji22) p187 q187; cases e187; have hn187_0 : ad187.block ≠ gb184 := Kd.own_blk (Kd.R_ne HO_10.out BK184.out (by decide)); have hn187_1 : ad187.block ≠ gb184 := Kd.own_blk (Kd.R_ne HO_10.out BK184.out (by decide)); replace hx187_0 := (cell_far (p := ⟨gb184, 0, none⟩) (by first | (rw [add_block]; exact hn187_0) | (show (Addr.add _ _).block ≠ _; rw [add_block]; exact hn187_0) | exact hn187_0) (.int .i64 t185)).trans hx187_0; replace hx187_0 := (cell_far (p := ⟨gb184, 1, none⟩) (by first | (rw [add_block]; exact hn187_1) | (show (Addr.add _ _).block ≠ _; rw [add_block]; exact hn187_1) | exact hn187_1) (.int .i64 t186)).trans hx187_0; (try have hy187_0 := fun (n_ : Nat) => (show ((((w31.drewN n_).setCell ⟨gb184, 0, none⟩ (.int .i64 t185)).setCell ⟨gb184, 1, none⟩ (.int .i64 t186))).cell? _ = some _ from hx187_0)); clear hn187_0; clear hn187_1; replace p187 := eq_true p187; replace q187 := eq_true q187))
                            repeat (go_quiet (first | (go_at_call 8; (with_reducible refine (turn_Turn_Step.calls x185000_2 x185001_2 a0 false (wrap64 ((wrap64 (Int.tmod a1 9)) + 1)) t185 t186 _ A19.out ?sideL).mono ?_); (case sideL => exact laid_below LA.out (by repeat (first | (with_reducible first | exact HB.out | apply below_alloc | apply pw_below_drewN | apply below_drew1 | refine below_set ?_ GE184.out) | exact HB.out))); rintro e w31 ⟨rfl, hb⟩; have n0_ := Aside0.mk (Kd.R_below (by (with_reducible repeat (first | apply Kd.R_alloc | apply Kd.R_drewN | apply Kd.R_drew)); exact HO_10.out) hb); have n1_ := Aside0.mk (blk_below (g := gb184) (o := .cells #[.int .i64 x185000_2, .int .i64 x185001_2] 23 (0, 0)) (by (with_reducible repeat (first | refine blk_drewN ?_ _ | refine blk_drew ?_ | refine blk_alloc ?_ _)); exact BK184.out) hb); have n2_ := Aside0.mk (below_step (by repeat (first | (with_reducible first | exact HB.out | apply below_alloc | apply pw_below_drewN | apply below_drew1 | refine below_set ?_ GE184.out) | exact HB.out)) hb); clear HO_10; clear BK184; clear HB; have HO_10 := n0_; have BK184 := n1_; have HB := n2_; clear n0_ n1_ n2_; (try clear hb); (try clear hb2); (try clear hk); (try clear hi); have hcz32_0 : w31.cell? ⟨gb184, 0, none⟩ = some (.int .i64 x185000_2) := (blk_cell BK184.out 0).trans rfl; have hcz32_1 : w31.cell? ⟨gb184, 1, none⟩ = some (.int .i64 x185001_2) := (blk_cell BK184.out 1).trans rfl; have hfz32_0 := blk_frozen BK184.out 0; have hfz32_1 := blk_frozen BK184.out 1; obtain ⟨Ao33, co33, eo33⟩ := Kd.R_slice HO_10.out; subst eo33; have p187 : 0 ≤ ((ji22) : Int) := of_decide_eq_true (by first | (with_reducible assumption) | assumption); have q187 : (ji22) < (x10_1.length : Int) := of_decide_eq_true (by first | (with_reducible assumption) | assumption); obtain ⟨ad187, e187, hx187_0⟩ := Kd.at_int (Kd.R_reads' HO_10.out).2.2 (ji22) p187 q187; cases e187; have hn187_0 : ad187.block ≠ gb184 := Kd.own_blk (Kd.R_ne HO_10.out BK184.out (by decide)); have hn187_1 : ad187.block ≠ gb184 := Kd.own_blk (Kd.R_ne HO_10.out BK184.out (by decide)); replace hx187_0 := (cell_far (p := ⟨gb184, 0, none⟩) (by first | (rw [add_block]; exact hn187_0) | (show (Addr.add _ _).block ≠ _; rw [add_block]; exact hn187_0) | exact hn187_0) (.int .i64 t185)).trans hx187_0; replace hx187_0 := (cell_far (p := ⟨gb184, 1, none⟩) (by first | (rw [add_block]; exact hn187_1) | (show (Addr.add _ _).block ≠ _; rw [add_block]; exact hn187_1) | exact hn187_1) (.int .i64 t186)).trans hx187_0; (try have hy187_0 := fun (n_ : Nat) => (show ((((w31.drewN n_).setCell ⟨gb184, 0, none⟩ (.int .i64 t185)).setCell ⟨gb184, 1, none⟩ (.int .i64 t186))).cell? _ = some _ from hx187_0)); clear hn187_0; clear hn187_1; replace p187 := eq_true p187; replace q187 := eq_true q187)); try go_wp2_with (first | (go_at_call 8; (with_reducible refine (turn_Turn_Step.calls x185000_2 x185001_2 a0 false (wrap64 ((wrap64 (Int.tmod a1 9)) + 1)) t185 t186 _ A19.out ?sideL).mono ?_); (case sideL => exact laid_below LA.out (by repeat (first | (with_reducible first | exact HB.out | apply below_alloc | apply pw_below_drewN | apply below_drew1 | refine below_set ?_ GE184.out) | exact HB.out))); rintro e w31 ⟨rfl, hb⟩; have n0_ := Aside0.mk (Kd.R_below (by (with_reducible repeat (first | apply Kd.R_alloc | apply Kd.R_drewN | apply Kd.R_drew)); exact HO_10.out) hb); have n1_ := Aside0.mk (blk_below (g := gb184) (o := .cells #[.int .i64 x185000_2, .int .i64 x185001_2] 23 (0, 0)) (by (with_reducible repeat (first | refine blk_drewN ?_ _ | refine blk_drew ?_ | refine blk_alloc ?_ _)); exact BK184.out) hb); have n2_ := Aside0.mk (below_step (by repeat (first | (with_reducible first | exact HB.out | apply below_alloc | apply pw_below_drewN | apply below_drew1 | refine below_set ?_ GE184.out) | exact HB.out)) hb); clear HO_10; clear BK184; clear HB; have HO_10 := n0_; have BK184 := n1_; have HB := n2_; clear n0_ n1_ n2_; (try clear hb); (try clear hb2); (try clear hk); (try clear hi); have hcz32_0 : w31.cell? ⟨gb184, 0, none⟩ = some (.int .i64 x185000_2) := (blk_cell BK184.out 0).trans rfl; have hcz32_1 : w31.cell? ⟨gb184, 1, none⟩ = some (.int .i64 x185001_2) := (blk_cell BK184.out 1).trans rfl; have hfz32_0 := blk_frozen BK184.out 0; have hfz32_1 := blk_frozen BK184.out 1; obtain ⟨Ao33, co33, eo33⟩ := Kd.R_slice HO_10.out; subst eo33; have p187 : 0 ≤ ((ji22) : Int) := of_decide_eq_true (by first | (with_reducible assumption) | assumption); have q187 : (ji22) < (x10_1.length : Int) := of_decide_eq_true (by first | (with_reducible assumption) | assumption); obtain ⟨ad187, e187, hx187_0⟩ := Kd.at_int (Kd.R_reads' HO_10.out).2.2 (ji22) p187 q187; cases e187; have hn187_0 : ad187.block ≠ gb184 := Kd.own_blk (Kd.R_ne HO_10.out BK184.out (by decide)); have hn187_1 : ad187.block ≠ gb184 := Kd.own_blk (Kd.R_ne HO_10.out BK184.out (by decide)); replace hx187_0 := (cell_far (p := ⟨gb184, 0, none⟩) (by first | (rw [add_block]; exact hn187_0) | (show (Addr.add _ _).block ≠ _; rw [add_block]; exact hn187_0) | exact hn187_0) (.int .i64 t185)).trans hx187_0; replace hx187_0 := (cell_far (p := ⟨gb184, 1, none⟩) (by first | (rw [add_block]; exact hn187_1) | (show (Addr.add _ _).block ≠ _; rw [add_block]; exact hn187_1) | exact hn187_1) (.int .i64 t186)).trans hx187_0; (try have hy187_0 := fun (n_ : Nat) => (show ((((w31.drewN n_).setCell ⟨gb184, 0, none⟩ (.int .i64 t185)).setCell ⟨gb184, 1, none⟩ (.int .i64 t186))).cell? _ = some _ from hx187_0)); clear hn187_0; clear hn187_1; replace p187 := eq_true p187; replace q187 := eq_true q187)))
                            go_ret
                            exact ⟨by first | rfl | (simp [errW_none, errW_some] <;> rfl) | (simp only [← hji22]; first | rfl | (simp [errW_none, errW_some] <;> rfl)) | (simp [*, errW_none, errW_some] <;> rfl), by repeat (first | (with_reducible first | exact HB.out | apply below_alloc | apply pw_below_drewN | apply below_drew1 | refine below_set ?_ GE184.out) | exact HB.out)⟩
                        · rw [if_neg c24] at H
                          exact absurd H (by simp)
                      · rw [if_neg c23] at H
                        exact absurd H (by simp)
                · rw [if_neg c18] at H
                  have c18b0 : decide (x13_2 < (wrap64 (Int.tmod a2 700))) = false := decide_eq_false c18
                  clear c18
                  obtain rfl := Option.some.inj H
                  go_wp2
                  repeat (go_quiet (fail); try go_wp2)
                  go_ret
                  exact ⟨by first | rfl | (simp [errW_none, errW_some] <;> rfl) | (simp [*, errW_none, errW_some] <;> rfl), by repeat (first | (with_reducible first | exact HB.out | apply below_alloc | apply pw_below_drewN | apply below_drew1 | refine below_set ?_ GE184.out) | exact HB.out)⟩
  · replace c5 := Bool.eq_false_iff.mpr c5
    subst c5
    have H1 : (some false) = some r := by rw [if_neg (show ¬ (false = true) by decide)] at H; exact H
    clear H
    have H := H1
    clear H1
    obtain rfl := Option.some.inj H
    go_enter Tryd.func5, Tryd.ntmps5
    go_wp2_with (first | (go_at_call 7; (with_reducible refine (paternosterlaw20_awake.calls  false _ A4.out ?sideL).mono ?_); (case sideL => exact laid_below LA.out (by repeat (first | (with_reducible first | exact HB.out | apply below_alloc | apply pw_below_drewN | apply below_drew1) | exact HB.out))); rintro e w34 ⟨rfl, hb⟩; have n0_ := Aside0.mk (below_step (by repeat (first | (with_reducible first | exact HB.out | apply below_alloc | apply pw_below_drewN | apply below_drew1) | exact HB.out)) hb); clear HB; have HB := n0_; clear n0_; (try clear hb); (try clear hb2); (try clear hk); (try clear hi)))
    repeat (go_quiet (first | (go_at_call 7; (with_reducible refine (paternosterlaw20_awake.calls  false _ A4.out ?sideL).mono ?_); (case sideL => exact laid_below LA.out (by repeat (first | (with_reducible first | exact HB.out | apply below_alloc | apply pw_below_drewN | apply below_drew1) | exact HB.out))); rintro e w34 ⟨rfl, hb⟩; have n0_ := Aside0.mk (below_step (by repeat (first | (with_reducible first | exact HB.out | apply below_alloc | apply pw_below_drewN | apply below_drew1) | exact HB.out)) hb); clear HB; have HB := n0_; clear n0_; (try clear hb); (try clear hb2); (try clear hk); (try clear hi))); try go_wp2_with (first | (go_at_call 7; (with_reducible refine (paternosterlaw20_awake.calls  false _ A4.out ?sideL).mono ?_); (case sideL => exact laid_below LA.out (by repeat (first | (with_reducible first | exact HB.out | apply below_alloc | apply pw_below_drewN | apply below_drew1) | exact HB.out))); rintro e w34 ⟨rfl, hb⟩; have n0_ := Aside0.mk (below_step (by repeat (first | (with_reducible first | exact HB.out | apply below_alloc | apply pw_below_drewN | apply below_drew1) | exact HB.out)) hb); clear HB; have HB := n0_; clear n0_; (try clear hb); (try clear hb2); (try clear hk); (try clear hi))))
    go_ret
    exact ⟨by first | rfl | (simp [errW_none, errW_some] <;> rfl) | (simp [*, errW_none, errW_some] <;> rfl), by repeat (first | (with_reducible first | exact HB.out | apply below_alloc | apply pw_below_drewN | apply below_drew1) | exact HB.out)⟩

/-- THE ONE PURE STATEMENT of paternosterlaw20_TurnRounds: yours. -/
def paternosterlaw20_TurnRounds.Pure : Prop := ∀ (a0 : Int) (a1 : Int) (a2 : Int), (Lit.int .u64 a0).wf = true → (Lit.int .u8 a1).wf = true → (Lit.int .u16 a2).wf = true → ∃ k, paternosterlaw20_TurnRounds.f k a0 a1 a2 = some true
theorem paternosterlaw20_TurnRounds.walk (P : paternosterlaw20_TurnRounds.Pure) (a0 : Int) (a1 : Int) (a2 : Int) (w : World) (w0 : (Lit.int .u64 a0).wf = true) (w1 : (Lit.int .u8 a1).wf = true) (w2 : (Lit.int .u16 a2).wf = true) (LA0 : Laid w) :
    Calls Tryd.prog 5 #[.int .u64 a0, .int .u8 a1, .int .u16 a2] w fun e w' => e = .returned (.bool true) ∧ Below w.heap.size w w' := by
  obtain ⟨k, h⟩ := P a0 a1 a2 w0 w1 w2
  refine (paternosterlaw20_TurnRounds.calls k a0 a1 a2 true w h LA0).mono ?_
  rintro e w' ⟨rfl, hd⟩
  exact ⟨rfl, hd⟩

end Go.Proofs.YtbaklgemdljmeaaDoor.X
