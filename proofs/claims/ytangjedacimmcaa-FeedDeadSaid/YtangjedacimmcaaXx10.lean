-- Written by a program of this session (wip/xprint/xprint.py runs the kit's print with hand-proved externs).
import Derived.Test.YtangjedacimmcaaXx0
import Derived.Test.YtangjedacimmcaaXx1
import Derived.Test.YtangjedacimmcaaFeedAwake
import Derived.Test.YtangjedacimmcaaFeedStep
namespace Go.Proofs.Ytangjedacimmcaa.X
open Go.RowKit Go.Proofs.YtangjedacimmcaaW.PrintWords Go.Proofs.YtangjedacimmcaaW.PrintLast Go.Proofs.YtangjedacimmcaaW.PrintMore
attribute [local go_sem] max2_int min2_int max_two min_two max_three min_three max_four min_four   -- for this text's walks alone
set_option linter.unusedVariables false
set_option linter.unusedSimpArgs false

attribute [local go_sem high] eqA23
/-! ### paternosterlaw10_FeedDead: function 8 -/
mutual
def paternosterlaw10_FeedDead.j0 : Nat → Int → List Int → Int → Int → Option (Bool)
  | 0, _, _, _, _ => none
  | k + 1, x1, x2, x8, x9 => (feed_Feed_Step.f x8 0 0 x9 true x1).bind fun bt222 => (paternosterlaw10_FeedDead.l0 k x2 x9 (mn (mx x1 1) 200) 0 bt222.1 bt222.2.1 bt222.2.2)
def paternosterlaw10_FeedDead.l0 : Nat → List Int → Int → Int → Int → Int → Int → Int → Option (Bool)
  | 0, _, _, _, _, _, _, _ => none
  | k + 1, x2, x9, x10, x12, x226000, x226001, x226002 => if x12 < (x2.length : Int) then (paternosterlaw10_FeedDead.j2 k x2 x9 x10 x12 (decide (x12 < x10)) x226000 x226001 x226002) else (paternosterlaw10_FeedDead.j2 k x2 x9 x10 x12 false x226000 x226001 x226002)
def paternosterlaw10_FeedDead.j2 : Nat → List Int → Int → Int → Int → Bool → Int → Int → Int → Option (Bool)
  | 0, _, _, _, _, _, _, _, _ => none
  | k + 1, x2, x9, x10, x12, x36, x226000, x226001, x226002 => if x36 = true then (if x226000 = 0 then (if x226001 = x9 then (if x226002 = (wrap64 (x10 - x12)) then (if 0 ≤ x12 then (if x12 < (x2.length : Int) then ((feed_Feed_Step.f x226000 x226001 x226002 (wrap64 (rd x2 x12)) true 5).bind fun bt227 => (paternosterlaw10_FeedDead.l0 k x2 x9 x10 (wrap64 (x12 + 1)) bt227.1 bt227.2.1 bt227.2.2)) else (none)) else (none)) else (some false)) else (some false)) else (some false)) else (if (x2.length : Int) < x10 then (some true) else (some (x226000 == x9 && (x226001 == 0 && (x226002 == 0)))))
end
def paternosterlaw10_FeedDead.f (k : Nat) (a0 : Bool) (a1 : Int) (l2 : List Int) : Option (Bool) := (paternosterlaw10_awake.f).bind fun t221 => (if t221 = true then (if (l2.length : Int) > 250 then (some true) else (if a0 = true then (paternosterlaw10_FeedDead.j0 k a1 l2 2 1) else (paternosterlaw10_FeedDead.j0 k a1 l2 1 2))) else (some false))
theorem paternosterlaw10_FeedDead.mono_l : ∀ k, (∀ y0 y1 y2 y3, LeO (paternosterlaw10_FeedDead.j0 k y0 y1 y2 y3) (paternosterlaw10_FeedDead.j0 (k + 1) y0 y1 y2 y3)) ∧ (∀ y0 y1 y2 y3 y4 y5 y6, LeO (paternosterlaw10_FeedDead.l0 k y0 y1 y2 y3 y4 y5 y6) (paternosterlaw10_FeedDead.l0 (k + 1) y0 y1 y2 y3 y4 y5 y6)) ∧ (∀ y0 y1 y2 y3 y4 y5 y6 y7, LeO (paternosterlaw10_FeedDead.j2 k y0 y1 y2 y3 y4 y5 y6 y7) (paternosterlaw10_FeedDead.j2 (k + 1) y0 y1 y2 y3 y4 y5 y6 y7))
  | 0 => ⟨fun _ _ _ _ r h => by simp [paternosterlaw10_FeedDead.j0] at h, fun _ _ _ _ _ _ _ r h => by simp [paternosterlaw10_FeedDead.l0] at h, fun _ _ _ _ _ _ _ _ r h => by simp [paternosterlaw10_FeedDead.j2] at h⟩
  | k + 1 => by
    obtain ⟨ih0, ih1, ih2⟩ := paternosterlaw10_FeedDead.mono_l k
    refine ⟨?_, ?_, ?_⟩
    · intro y0 y1 y2 y3
      unfold paternosterlaw10_FeedDead.j0
      repeat' first
      | (with_reducible exact ih0 _ _ _ _)
      | (with_reducible exact ih1 _ _ _ _ _ _ _)
      | (with_reducible exact ih2 _ _ _ _ _ _ _ _)
      | (with_reducible exact LeO.refl _)
      | (with_reducible exact LeO.none _)
      | (with_reducible refine LeO.ite ?_ ?_)
      | (with_reducible refine LeO.bind ?_ (fun _ => ?_))
      | exact ih0 _ _ _ _
      | exact ih1 _ _ _ _ _ _ _
      | exact ih2 _ _ _ _ _ _ _ _
      | exact LeO.none _
      | refine LeO.ite ?_ ?_
      | refine LeO.bind ?_ (fun _ => ?_)
    · intro y0 y1 y2 y3 y4 y5 y6
      unfold paternosterlaw10_FeedDead.l0
      repeat' first
      | (with_reducible exact ih0 _ _ _ _)
      | (with_reducible exact ih1 _ _ _ _ _ _ _)
      | (with_reducible exact ih2 _ _ _ _ _ _ _ _)
      | (with_reducible exact LeO.refl _)
      | (with_reducible exact LeO.none _)
      | (with_reducible refine LeO.ite ?_ ?_)
      | (with_reducible refine LeO.bind ?_ (fun _ => ?_))
      | exact ih0 _ _ _ _
      | exact ih1 _ _ _ _ _ _ _
      | exact ih2 _ _ _ _ _ _ _ _
      | exact LeO.none _
      | refine LeO.ite ?_ ?_
      | refine LeO.bind ?_ (fun _ => ?_)
    · intro y0 y1 y2 y3 y4 y5 y6 y7
      unfold paternosterlaw10_FeedDead.j2
      repeat' first
      | (with_reducible exact ih0 _ _ _ _)
      | (with_reducible exact ih1 _ _ _ _ _ _ _)
      | (with_reducible exact ih2 _ _ _ _ _ _ _ _)
      | (with_reducible exact LeO.refl _)
      | (with_reducible exact LeO.none _)
      | (with_reducible refine LeO.ite ?_ ?_)
      | (with_reducible refine LeO.bind ?_ (fun _ => ?_))
      | exact ih0 _ _ _ _
      | exact ih1 _ _ _ _ _ _ _
      | exact ih2 _ _ _ _ _ _ _ _
      | exact LeO.none _
      | refine LeO.ite ?_ ?_
      | refine LeO.bind ?_ (fun _ => ?_)
theorem paternosterlaw10_FeedDead.mono : ∀ a0 a1 a2 k, LeO (paternosterlaw10_FeedDead.f k a0 a1 a2) (paternosterlaw10_FeedDead.f (k + 1) a0 a1 a2) := by
  intro a0 a1 a2 k
  obtain ⟨ih0, ih1, ih2⟩ := paternosterlaw10_FeedDead.mono_l k
  unfold paternosterlaw10_FeedDead.f
  repeat' first
      | (with_reducible exact ih0 _ _ _ _)
      | (with_reducible exact ih1 _ _ _ _ _ _ _)
      | (with_reducible exact ih2 _ _ _ _ _ _ _ _)
      | (with_reducible exact LeO.refl _)
      | (with_reducible exact LeO.none _)
      | (with_reducible refine LeO.ite ?_ ?_)
      | (with_reducible refine LeO.bind ?_ (fun _ => ?_))
      | exact ih0 _ _ _ _
      | exact ih1 _ _ _ _ _ _ _
      | exact ih2 _ _ _ _ _ _ _ _
      | exact LeO.none _
      | refine LeO.ite ?_ ?_
      | refine LeO.bind ?_ (fun _ => ?_)
def paternosterlaw10_FeedDead.T18 : Bool × List (List Nat × List Nat) := (true, [([], []), ([], []), ([], []), ([1, 2], [1, 2]), ([3], [3]), ([4], [4]), ([0, 5], [0, 5]), ([6, 6, 0, 1, 2, 3, 4, 5, 6], [6])])
def paternosterlaw10_FeedDead.B18 : List Nat := [0, 0, 0, 6, 14, 30, 63, 127]
theorem paternosterlaw10_FeedDead.tab18 : rtab .any (opsOf Try.f8 18) = paternosterlaw10_FeedDead.T18 := by kernel_rfl
theorem paternosterlaw10_FeedDead.bits18 : waitsOk paternosterlaw10_FeedDead.T18.2 paternosterlaw10_FeedDead.B18 = true := by kernel_rfl
set_option maxHeartbeats 8000000 in
set_option maxRecDepth 100000 in
theorem paternosterlaw10_FeedDead.calls (k : Nat) (a0 : Bool) (a1 : Int) (A2 : Option Addr) (c2 : Nat) (l2 : List Int) (r : Bool) (w : World) (hr2 : Kd.C (Kd.int .i8) w A2 l2.length l2) (hc2 : l2.length ≤ c2) (h : paternosterlaw10_FeedDead.f k a0 a1 l2 = some r) :
    Calls Try.prog 8 #[.bool a0, .int .i64 a1, .slice A2 l2.length c2] w fun e w' => e = .returned (.bool r) ∧ Below w.heap.size w w' := by
  have hu23 := Try.underlying23
  have HR2 := Aside0.mk hr2
  have HC2 := Aside0.mk hc2
  clear hr2 hc2
  have HB := Aside0.mk (Below.refl w.heap.size w)
  have H : ((paternosterlaw10_awake.f).bind fun t221 => (if t221 = true then (if (l2.length : Int) > 250 then (some true) else (if a0 = true then (paternosterlaw10_FeedDead.j0 k a1 l2 2 1) else (paternosterlaw10_FeedDead.j0 k a1 l2 1 2))) else (some false))) = some r := h
  clear h
  replace H := Option.bind_eq_some_iff.mp H
  obtain ⟨t221, A40, H⟩ := H
  replace H : (if t221 = true then (if (l2.length : Int) > 250 then (some true) else (if a0 = true then (paternosterlaw10_FeedDead.j0 k a1 l2 2 1) else (paternosterlaw10_FeedDead.j0 k a1 l2 1 2))) else (some false)) = some r := H
  have A4 := Aside0.mk A40
  clear A40
  by_cases c5 : t221 = true
  · subst c5
    have H1 : (if (l2.length : Int) > 250 then (some true) else (if a0 = true then (paternosterlaw10_FeedDead.j0 k a1 l2 2 1) else (paternosterlaw10_FeedDead.j0 k a1 l2 1 2))) = some r := by rw [if_pos rfl] at H; exact H
    clear H
    have H := H1
    clear H1
    by_cases c6 : (l2.length : Int) > 250
    · rw [if_pos c6] at H
      have c6b0 : decide (250 < (l2.length : Int)) = true := decide_eq_true c6
      have c6b1 : decide (250 < l2.length) = true := decide_eq_true (by omega)
      clear c6
      obtain rfl := Option.some.inj H
      go_enter Try.func8, Try.ntmps8
      go_wp2_with (first | ((with_reducible refine gate_callee (f := 9) rfl ?_); refine goesL_ (some 13) rfl rfl Try.func9 (by kernel_rfl) rfl #[] rfl (by (try simp only [List.map_toArray, List.map_cons, List.map_nil]); first | done | rfl | (simp only [List.length_drop, List.length_take]; rfl)) ?_; (with_reducible refine (paternosterlaw10_awake.calls  true _ A4.out).mono ?_); rintro e w7 ⟨rfl, hb⟩; refine ⟨_, rfl, ?_⟩; have n0_ := Aside0.mk (below_step (by repeat (first | (with_reducible first | exact HB.out | apply below_alloc | apply pw_below_drewN | apply below_drew1) | exact HB.out)) hb); clear HB; have HB := n0_; clear n0_; (try clear hb); (try clear hb2); (try clear hk); (try clear hi)))
      go_ret
      exact ⟨by first | rfl | (simp [errW_none, errW_some] <;> rfl) | (simp [*, errW_none, errW_some] <;> rfl), by repeat (first | (with_reducible first | exact HB.out | apply below_alloc | apply pw_below_drewN | apply below_drew1) | exact HB.out)⟩
    · rw [if_neg c6] at H
      have c6b0 : decide (250 < (l2.length : Int)) = false := decide_eq_false c6
      have c6b1 : decide (250 < l2.length) = false := decide_eq_false (by omega)
      clear c6
      have HC8 := Aside0.mk H
      clear H
      go_enter Try.func8, Try.ntmps8
      go_upto_if 19 with (first | ((with_reducible refine gate_callee (f := 9) rfl ?_); refine goesL_ (some 13) rfl rfl Try.func9 (by kernel_rfl) rfl #[] rfl (by (try simp only [List.map_toArray, List.map_cons, List.map_nil]); first | done | rfl | (simp only [List.length_drop, List.length_take]; rfl)) ?_; (with_reducible refine (paternosterlaw10_awake.calls  true _ A4.out).mono ?_); rintro e w9 ⟨rfl, hb⟩; refine ⟨_, rfl, ?_⟩; have n0_ := Aside0.mk (below_step (by repeat (first | (with_reducible first | exact HB.out | apply below_alloc | apply pw_below_drewN | apply below_drew1) | exact HB.out)) hb); clear HB; have HB := n0_; clear n0_; (try clear hb); (try clear hb2); (try clear hk); (try clear hi)))
      (try simp only [Act.put, List.setIfInBounds_toArray, List.set_cons_zero, List.set_cons_succ])
      go_cut [8, 9] (fun v8 v9 wc => ∃ (kq : Nat) (x8_7 : Int) (x9_7 : Int), v8 = .int .i64 x8_7 ∧ v9 = .int .i64 x9_7 ∧ Aside0 (paternosterlaw10_FeedDead.j0 kq a1 l2 x8_7 x9_7 = some r) ∧ Aside0 (kq ≤ k) ∧ Aside0 (Below w.heap.size w wc))
      case first =>
        have H := HC8.out
        clear HC8
        by_cases c10 : a0 = true
        · subst c10
          have H1 : (paternosterlaw10_FeedDead.j0 k a1 l2 2 1) = some r := by rw [if_pos rfl] at H; exact H
          clear H
          have H := H1
          clear H1
          have H' := Aside0.mk H
          clear H
          go_wp2
          go_meet
          case rel => exact ⟨_, (2), (1), (by first | rfl | (simp; done) | (simp [*]; done)), (by first | rfl | (simp; done) | (simp [*]; done)), H', ⟨by first | omega | exact Nat.le_refl _⟩, ⟨by repeat (first | (with_reducible first | exact HB.out | apply below_alloc | apply pw_below_drewN | apply below_drew1) | exact HB.out)⟩⟩
        · replace c10 := Bool.eq_false_iff.mpr c10
          subst c10
          have H1 : (paternosterlaw10_FeedDead.j0 k a1 l2 1 2) = some r := by rw [if_neg (show ¬ (false = true) by decide)] at H; exact H
          clear H
          have H := H1
          clear H1
          have H' := Aside0.mk H
          clear H
          go_wp2
          go_meet
          case rel => exact ⟨_, (1), (2), (by first | rfl | (simp; done) | (simp [*]; done)), (by first | rfl | (simp; done) | (simp [*]; done)), H', ⟨by first | omega | exact Nat.le_refl _⟩, ⟨by repeat (first | (with_reducible first | exact HB.out | apply below_alloc | apply pw_below_drewN | apply below_drew1) | exact HB.out)⟩⟩
      case rest =>
        clear HC8
        try clear c1
        try clear c2
        try clear p2
        try clear c5
        try clear c6
        try clear c6b0
        try clear c6b1
        try clear c8
        try clear c9
        try clear c10
        obtain ⟨kq, x8_7, x9_7, rfl, rfl, HA, HJ7, HB⟩ := hcut
        cases kq with
        | zero => exact absurd HA.out (by simp [paternosterlaw10_FeedDead.j0])
        | succ kj7 =>
          have H := HA.out
          clear HA
          simp only [paternosterlaw10_FeedDead.j0] at H
          obtain ⟨ji11, hji11⟩ : ∃ j_ : Int, (mx a1 1) = j_ := ⟨_, rfl⟩
          replace H : ((feed_Feed_Step.f x8_7 0 0 x9_7 true a1).bind fun bt222 => (paternosterlaw10_FeedDead.l0 kj7 l2 x9_7 (mn (ji11) 200) 0 bt222.1 bt222.2.1 bt222.2.2)) = some r := by first | (rw [hji11] at H; exact H) | (simp only [hji11] at H ⊢; exact H)
          have hji11_ : (if a1 < 1 then 1 else a1) = ji11 := hji11
          obtain ⟨ji12, hji12⟩ : ∃ j_ : Int, (mn (ji11) 200) = j_ := ⟨_, rfl⟩
          replace H : ((feed_Feed_Step.f x8_7 0 0 x9_7 true a1).bind fun bt222 => (paternosterlaw10_FeedDead.l0 kj7 l2 x9_7 ji12 0 bt222.1 bt222.2.1 bt222.2.2)) = some r := by first | (rw [hji12] at H; exact H) | (simp only [hji12] at H ⊢; exact H)
          have hji12_ : (if 200 < (ji11) then 200 else (ji11)) = ji12 := hji12
          replace H := Option.bind_eq_some_iff.mp H
          obtain ⟨⟨t222, t223, t224⟩, A130, H⟩ := H
          replace H : (paternosterlaw10_FeedDead.l0 kj7 l2 x9_7 ji12 0 t222 t223 t224) = some r := H
          have A13 := Aside0.mk A130
          clear A130
          have H' := Aside0.mk H
          clear H
          go_wp2_with (first | ((with_reducible refine gate_callee (f := 10) rfl ?_); refine goesL_ (some 27) rfl rfl Try.func10 (by kernel_rfl) rfl #[.agg #[.int .i64 x8_7, .int .i64 0, .int .i64 0], .int .i64 x9_7, .bool true, .int .i64 a1] rfl (by (try simp only [List.map_toArray, List.map_cons, List.map_nil]); first | done | rfl | (simp only [List.length_drop, List.length_take]; rfl)) ?_; (with_reducible refine (feed_Feed_Step.calls x8_7 0 0 x9_7 true a1 t222 t223 t224 _ A13.out).mono ?_); rintro e w14 ⟨rfl, hb⟩; refine ⟨_, rfl, ?_⟩; have n0_ := Aside0.mk (below_step (by repeat (first | (with_reducible first | exact HB.out | apply below_alloc | apply pw_below_drewN | apply below_drew1) | exact HB.out)) hb); clear HB; have HB := n0_; clear n0_; (try clear hb); (try clear hb2); (try clear hk); (try clear hi)) | ((with_reducible refine gate_dst (N := 11) rfl ?_); refine box_event ?hg (N := 11) ?hd (cs := #[.int .i64 0, .int .i64 0, .int .i64 0]) (t := 23) ?hr ?_; (case hd => rfl); (case hg => rfl); (case hr => first | (go_simp; done) | (go_simp; rfl)); intro gb225 hg w15 hbox hb; have n0_ := Aside0.mk (below_step (by repeat (first | (with_reducible first | exact HB.out | apply below_alloc | apply pw_below_drewN | apply below_drew1) | exact HB.out)) hb); have n1_ := Aside0.mk (hbox); have n2_ := Aside0.mk ((by rw [hg]; exact (below_size (by repeat (first | (with_reducible first | exact HB.out | apply below_alloc | apply pw_below_drewN | apply below_drew1) | exact HB.out))) : w.heap.size ≤ gb225)); have n3_ := Aside0.mk ((by rw [hg]; exact (below_size (by repeat (first | (with_reducible first | exact HB.out | apply below_alloc | apply pw_below_drewN | apply below_drew1) | exact HB.out))) : w.heap.size ≤ gb225)); clear HB; have HB := n0_; have BK225 := n1_; have GW225 := n2_; have GE225 := n3_; clear n0_ n1_ n2_ n3_; clear hb hbox hg; have hcz16_0 : w15.cell? ⟨gb225, 0, none⟩ = some (.int .i64 0) := (blk_cell BK225.out 0).trans rfl; have hcz16_1 : w15.cell? ⟨gb225, 1, none⟩ = some (.int .i64 0) := (blk_cell BK225.out 1).trans rfl; have hcz16_2 : w15.cell? ⟨gb225, 2, none⟩ = some (.int .i64 0) := (blk_cell BK225.out 2).trans rfl; have hfz16_0 := blk_frozen BK225.out 0; have hfz16_1 := blk_frozen BK225.out 1; have hfz16_2 := blk_frozen BK225.out 2))
          go_loopg [12] kj7 (fun kq v12 w' => ∃ (x12_2 : Int) (x226000_2 : Int) (x226001_2 : Int) (x226002_2 : Int), v12 = .int .i64 x12_2 ∧ Aside0 (paternosterlaw10_FeedDead.l0 kq l2 x9_7 ji12 x12_2 x226000_2 x226001_2 x226002_2 = some r) ∧ Aside0 (kq ≤ kj7) ∧ Aside0 (w'.heap[gb225]? = some (.cells #[.int .i64 x226000_2, .int .i64 x226001_2, .int .i64 x226002_2] 23 (0, 0))) ∧ Aside0 (Below w.heap.size w w'))
          case atStart => exact ⟨(0), (t222), (t223), (t224), (by first | rfl | (simp; done) | (simp [*]; done)), H', ⟨Nat.le_refl _⟩, ⟨by (with_reducible repeat (first | refine blk_drewN ?_ _ | refine blk_drew ?_ | refine blk_alloc ?_ _)); refine blk_put (cs := #[.int .i64 t222, .int .i64 t223, .int .i64 0]) ?_ 2 _ rfl; (with_reducible repeat (first | refine blk_drewN ?_ _ | refine blk_drew ?_ | refine blk_alloc ?_ _)); refine blk_put (cs := #[.int .i64 t222, .int .i64 0, .int .i64 0]) ?_ 1 _ rfl; (with_reducible repeat (first | refine blk_drewN ?_ _ | refine blk_drew ?_ | refine blk_alloc ?_ _)); refine blk_put (cs := #[.int .i64 0, .int .i64 0, .int .i64 0]) ?_ 0 _ rfl; (with_reducible repeat (first | refine blk_drewN ?_ _ | refine blk_drew ?_ | refine blk_alloc ?_ _)); exact BK225.out⟩, ⟨by repeat (first | (with_reducible first | exact HB.out | apply below_alloc | apply pw_below_drewN | apply below_drew1 | refine below_set ?_ GE225.out) | exact HB.out)⟩⟩
          case round =>
            clear H'
            try clear c1
            try clear c2
            try clear p2
            try clear c5
            try clear c6
            try clear c6b0
            try clear c6b1
            try clear c8
            try clear c9
            try clear c10
            try clear hcz16_0
            try clear hcz16_1
            try clear hcz16_2
            try clear hfz16_0
            try clear hfz16_1
            try clear hfz16_2
            try clear p2
            obtain ⟨x12_2, x226000_2, x226001_2, x226002_2, rfl, HA, HK2, BK225, HB⟩ := hrel
            cases gk with
            | zero => exact absurd HA.out (by simp [paternosterlaw10_FeedDead.l0])
            | succ k2 =>
              have H := HA.out
              clear HA
              simp only [paternosterlaw10_FeedDead.l0] at H
              have HC17 := Aside0.mk H
              clear H
              go_upto_region 14 with (fail)
              go_cut [36] (fun v36 wc => ∃ (kq : Nat) (x36_16 : Bool), v36 = .bool x36_16 ∧ Aside0 (paternosterlaw10_FeedDead.j2 kq l2 x9_7 ji12 x12_2 x36_16 x226000_2 x226001_2 x226002_2 = some r) ∧ Aside0 (kq ≤ k2) ∧ Aside0 (wc.heap[gb225]? = some (.cells #[.int .i64 x226000_2, .int .i64 x226001_2, .int .i64 x226002_2] 23 (0, 0))) ∧ Aside0 (Below w.heap.size w wc))
              case first =>
                have H := HC17.out
                clear HC17
                by_cases c18 : x12_2 < (l2.length : Int)
                · rw [if_pos c18] at H
                  have c18b0 : decide (x12_2 < (l2.length : Int)) = true := decide_eq_true c18
                  clear c18
                  (first | rw [c18b0] | (simp only [i64_w, i32_w]; rw [c18b0]) | skip)
                  have H' := Aside0.mk H
                  clear H
                  go_wp2
                  go_meet
                  case rel => exact ⟨_, (decide (x12_2 < ji12)), (by first | rfl | (simp; done) | (simp only [← hji12] <;> (first | rfl | simp)) | (simp [*]; done)), H', ⟨by have := HJ7.out; have := HK2.out; first | omega | exact Nat.le_refl _⟩, ⟨by (with_reducible repeat (first | refine blk_drewN ?_ _ | refine blk_drew ?_ | refine blk_alloc ?_ _)); exact BK225.out⟩, ⟨by repeat (first | (with_reducible first | exact HB.out | apply below_alloc | apply pw_below_drewN | apply below_drew1 | refine below_set ?_ GE225.out) | exact HB.out)⟩⟩
                · rw [if_neg c18] at H
                  have c18b0 : decide (x12_2 < (l2.length : Int)) = false := decide_eq_false c18
                  clear c18
                  (first | rw [c18b0] | (simp only [i64_w, i32_w]; rw [c18b0]) | skip)
                  have H' := Aside0.mk H
                  clear H
                  go_wp2
                  go_meet
                  case rel => exact ⟨_, (false), (by first | rfl | (simp; done) | (simp [*]; done)), H', ⟨by have := HJ7.out; have := HK2.out; first | omega | exact Nat.le_refl _⟩, ⟨by (with_reducible repeat (first | refine blk_drewN ?_ _ | refine blk_drew ?_ | refine blk_alloc ?_ _)); exact BK225.out⟩, ⟨by repeat (first | (with_reducible first | exact HB.out | apply below_alloc | apply pw_below_drewN | apply below_drew1 | refine below_set ?_ GE225.out) | exact HB.out)⟩⟩
              case rest =>
                clear HC17
                try clear c1
                try clear c2
                try clear p2
                try clear c5
                try clear c6
                try clear c6b0
                try clear c6b1
                try clear c8
                try clear c9
                try clear c10
                try clear c18
                try clear c18b0
                try clear hcz16_0
                try clear hcz16_1
                try clear hcz16_2
                try clear hfz16_0
                try clear hfz16_1
                try clear hfz16_2
                try clear p2
                obtain ⟨kq, x36_16, rfl, HA, HJ16, BK225, HB⟩ := hcut
                cases kq with
                | zero => exact absurd HA.out (by simp [paternosterlaw10_FeedDead.j2])
                | succ kj16 =>
                  have H := HA.out
                  clear HA
                  simp only [paternosterlaw10_FeedDead.j2] at H
                  by_cases c19 : x36_16 = true
                  · subst c19
                    have H1 : (if x226000_2 = 0 then (if x226001_2 = x9_7 then (if x226002_2 = (wrap64 (ji12 - x12_2)) then (if 0 ≤ x12_2 then (if x12_2 < (l2.length : Int) then ((feed_Feed_Step.f x226000_2 x226001_2 x226002_2 (wrap64 (rd l2 x12_2)) true 5).bind fun bt227 => (paternosterlaw10_FeedDead.l0 kj16 l2 x9_7 ji12 (wrap64 (x12_2 + 1)) bt227.1 bt227.2.1 bt227.2.2)) else (none)) else (none)) else (some false)) else (some false)) else (some false)) = some r := by rw [if_pos rfl] at H; exact H
                    clear H
                    have H := H1
                    clear H1
                    by_cases c20 : x226000_2 = 0
                    · rw [if_pos c20] at H
                      have c20b0 : (x226000_2 == 0) = true := beq_iff_eq.mpr c20
                      have c20b1 : (x226000_2 != 0) = false := bne_eq_false_iff_eq.mpr c20
                      clear c20
                      by_cases c21 : x226001_2 = x9_7
                      · rw [if_pos c21] at H
                        have c21b0 : (x226001_2 == x9_7) = true := beq_iff_eq.mpr c21
                        have c21b1 : (x226001_2 != x9_7) = false := bne_eq_false_iff_eq.mpr c21
                        clear c21
                        by_cases c22 : x226002_2 = (wrap64 (ji12 - x12_2))
                        · rw [if_pos c22] at H
                          have c22b0 : (x226002_2 == (wrap64 (ji12 - x12_2))) = true := beq_iff_eq.mpr c22
                          have c22b1 : (x226002_2 != (wrap64 (ji12 - x12_2))) = false := bne_eq_false_iff_eq.mpr c22
                          clear c22
                          by_cases c23 : 0 ≤ x12_2
                          · rw [if_pos c23] at H
                            have c23b0 : decide (0 ≤ x12_2) = true := decide_eq_true c23
                            clear c23
                            by_cases c24 : x12_2 < (l2.length : Int)
                            · rw [if_pos c24] at H
                              have c24b0 : decide (x12_2 < (l2.length : Int)) = true := decide_eq_true c24
                              clear c24
                              replace H := Option.bind_eq_some_iff.mp H
                              obtain ⟨⟨t227, t228, t229⟩, A250, H⟩ := H
                              replace H : (paternosterlaw10_FeedDead.l0 kj16 l2 x9_7 ji12 (wrap64 (x12_2 + 1)) t227 t228 t229) = some r := H
                              have A25 := Aside0.mk A250
                              clear A250
                              have H' := Aside0.mk H
                              clear H
                              have hcz26_0 : wc.cell? ⟨gb225, 0, none⟩ = some (.int .i64 x226000_2) := (blk_cell BK225.out 0).trans rfl
                              have hcz26_1 : wc.cell? ⟨gb225, 1, none⟩ = some (.int .i64 x226001_2) := (blk_cell BK225.out 1).trans rfl
                              have hcz26_2 : wc.cell? ⟨gb225, 2, none⟩ = some (.int .i64 x226002_2) := (blk_cell BK225.out 2).trans rfl
                              have hfz26_0 := blk_frozen BK225.out 0
                              have hfz26_1 := blk_frozen BK225.out 1
                              have hfz26_2 := blk_frozen BK225.out 2
                              try go_wp2
                              have n0_ := Aside0.mk (blk_drew BK225.out)
                              have n1_ := Aside0.mk (below_drew1 HB.out)
                              clear BK225
                              clear HB
                              have BK225 := n0_
                              have HB := n1_
                              clear n0_ n1_
                              have p226 : 0 ≤ (x12_2 : Int) := of_decide_eq_true (by first | (with_reducible assumption) | assumption)
                              have q226 : x12_2 < (l2.length : Int) := of_decide_eq_true (by first | (with_reducible assumption) | assumption)
                              obtain ⟨ad226, e226, hx226_0⟩ := Kd.at_int HR2.out x12_2 p226 q226
                              have hw226_0 := hx226_0
                              cases e226
                              replace hx226_0 := (HB.out.cell (World.block_lt_of_cell? w _ hx226_0)).trans hx226_0
                              replace p226 := eq_true p226
                              replace q226 := eq_true q226
                              refine start_ (n := 8) (S := fun w' => w'.cell? ⟨gb225, 0, none⟩ = some (.int .i64 x226000_2) ∧ w'.cell? ⟨gb225, 1, none⟩ = some (.int .i64 x226001_2) ∧ w'.cell? ⟨gb225, 2, none⟩ = some (.int .i64 x226002_2) ∧ w'.cell? (ad226.add (x12_2).toNat) = some (.int .i8 (rd l2 x12_2))) (ds := [7]) #[false, false, false, false, false, false, false, false] (by kernel_rfl) rfl rfl ⟨(blk_cell BK225.out 0).trans rfl, (blk_cell BK225.out 1).trans rfl, (blk_cell BK225.out 2).trans rfl, ((HB.out.cell (World.block_lt_of_cell? w _ hw226_0)).trans hw226_0)⟩ (fun hHeld => ?_); refine with_tabW paternosterlaw10_FeedDead.tab18 paternosterlaw10_FeedDead.bits18 (fun HT_ HW_ => ?_)
                              generalize wc.drew = w27 at BK225 HB hx226_0 hHeld ⊢
                              refine pure_ (i := 1) (N := some 57) (v := ?_) (a' := ?_) #[false, true, false, false, false, false, false, false] rfl rfl (any_of HT_.out (by kernel_rfl)) (fun _ _ _ h => h) (Or.inl ⟨by rfl, ?_⟩) ?_ ?_
                              rotate_left
                              · intro w'
                                go_simp
                                with_reducible rfl
                              rotate_left
                              · simp only [Act.put, List.setIfInBounds_toArray, List.set_cons_zero, List.set_cons_succ, i64_w, i32_w]
                                rfl
                              refine pure_ (i := 2) (N := some 58) (v := ?_) (a' := ?_) #[false, true, true, false, false, false, false, false] rfl rfl (any_of HT_.out (by kernel_rfl)) (fun _ _ _ h => h) (Or.inl ⟨by rfl, ?_⟩) ?_ ?_
                              rotate_left
                              · intro w'
                                go_simp
                                with_reducible rfl
                              rotate_left
                              · simp only [Act.put, List.setIfInBounds_toArray, List.set_cons_zero, List.set_cons_succ, i64_w, i32_w]
                                rfl
                              refine pure_ (i := 3) (N := some 59) (v := ?_) (a' := ?_) #[false, true, true, true, false, false, false, false] rfl rfl (any_of HT_.out (by kernel_rfl)) (fun _ _ _ h => h) (Or.inl ⟨by rfl, ?_⟩) ?_ ?_
                              rotate_left
                              · intro w'
                                go_simp
                                with_reducible rfl
                              rotate_left
                              · simp only [Act.put, List.setIfInBounds_toArray, List.set_cons_zero, List.set_cons_succ, i64_w, i32_w]
                                rfl
                              refine take_ (i := 0) (N := some 56) (v := ?_) (a' := ?_) #[true, true, true, true, false, false, false, false] rfl rfl (take_ofW HT_.out HW_.out (by kernel_rfl)) (fun _ _ _ h => h) (Or.inl ⟨by rfl, ?_⟩) hHeld ?_ ?_
                              rotate_left
                              · rintro w' ⟨s0, s1, s2, s3⟩
                                go_simp
                                with_reducible rfl
                              rotate_left
                              · simp only [Act.put, List.setIfInBounds_toArray, List.set_cons_zero, List.set_cons_succ, i64_w, i32_w]
                                rfl
                              refine take_ (i := 4) (N := some 60) (v := ?_) (a' := ?_) #[true, true, true, true, true, false, false, false] rfl rfl (take_ofW HT_.out HW_.out (by kernel_rfl)) (fun _ _ _ h => h) (Or.inl ⟨by rfl, ?_⟩) hHeld ?_ ?_
                              rotate_left
                              · rintro w' ⟨s0, s1, s2, s3⟩
                                go_simp
                                with_reducible rfl
                              rotate_left
                              · simp only [Act.put, List.setIfInBounds_toArray, List.set_cons_zero, List.set_cons_succ, i64_w, i32_w]
                                rfl
                              refine pure_ (i := 5) (N := some 61) (v := ?_) (a' := ?_) #[true, true, true, true, true, true, false, false] rfl rfl (any_of HT_.out (by kernel_rfl)) (fun _ _ _ h => h) (Or.inl ⟨by rfl, ?_⟩) ?_ ?_
                              rotate_left
                              · intro w'
                                go_simp
                                with_reducible rfl
                              rotate_left
                              · simp only [Act.put, List.setIfInBounds_toArray, List.set_cons_zero, List.set_cons_succ, i64_w, i32_w]
                                rfl
                              refine one_ (i := 6) (N := some 62) #[true, true, true, true, true, true, true, false] rfl rfl (one_of HT_.out (by kernel_rfl)) (by decide) (fun K hK => ?_)
                              refine goes_ Try.func10 (by kernel_rfl) rfl #[.agg #[.int .i64 x226000_2, .int .i64 x226001_2, .int .i64 x226002_2], .int .i64 (wrap64 (rd l2 x12_2)), .bool true, .int .i64 5] (by rfl) rfl rfl (by (try simp only [List.map_toArray, List.map_cons, List.map_nil]); first | done | rfl | (simp only [List.length_drop, List.length_take]; rfl)) ?_
                              with_reducible refine (feed_Feed_Step.calls x226000_2 x226001_2 x226002_2 (wrap64 (rd l2 x12_2)) true 5 t227 t228 t229 _ A25.out).mono ?_
                              rintro e w28 ⟨rfl, hb⟩
                              refine ⟨_, rfl, ?_⟩
                              have n0_ := Aside0.mk (blk_below (g := gb225) (o := .cells #[.int .i64 x226000_2, .int .i64 x226001_2, .int .i64 x226002_2] 23 (0, 0)) (by (with_reducible repeat (first | refine blk_drewN ?_ _ | refine blk_drew ?_ | refine blk_alloc ?_ _)); exact BK225.out) hb)
                              have n1_ := Aside0.mk (below_step (by repeat (first | (with_reducible first | exact HB.out | apply below_alloc | apply pw_below_drewN | apply below_drew1 | refine below_set ?_ GE225.out) | exact HB.out)) hb)
                              clear BK225
                              clear HB
                              have BK225 := n0_
                              have HB := n1_
                              clear n0_ n1_
                              (try clear hb)
                              (try clear hb2)
                              (try clear hk)
                              (try clear hi)
                              refine hK.out _ _ ⟨(blk_cell BK225.out 0).trans rfl, (blk_cell BK225.out 1).trans rfl, (blk_cell BK225.out 2).trans rfl, ((HB.out.cell (World.block_lt_of_cell? w _ hw226_0)).trans hw226_0)⟩ (fun hHeld => ?_)
                              clear hK K
                              refine norm_ (a' := ?_) ?_ ?_
                              rotate_left
                              · show Act.put _ (some 62) _ = _
                                simp only [Act.put, List.setIfInBounds_toArray, List.set_cons_zero, List.set_cons_succ, i64_w, i32_w]
                                rfl
                              refine last_ (i := 7) (N := none) #[true, true, true, true, true, true, true, true] rfl rfl (one_of HT_.out (by kernel_rfl)) (by decide) (fun K hK => ?_)
                              have hs29 : w28.cell? ⟨gb225, 0, none⟩ = some (.int .i64 x226000_2) := (blk_cell BK225.out 0).trans rfl
                              have hfs29 := blk_frozen BK225.out 0
                              have hs30 : w28.cell? ⟨gb225, 1, none⟩ = some (.int .i64 x226001_2) := (blk_cell BK225.out 1).trans rfl
                              have hfs30 := blk_frozen BK225.out 1
                              have hs31 : w28.cell? ⟨gb225, 2, none⟩ = some (.int .i64 x226002_2) := (blk_cell BK225.out 2).trans rfl
                              have hfs31 := blk_frozen BK225.out 2
                              refine skip_ (w1 := ?_) (by rfl) rfl ?_ ?_
                              rotate_left
                              · go_simp
                                rfl
                              refine hK.out _ _ ?_
                              clear hK K
                              refine done_ (done_of HT_.out (by kernel_rfl)) ?_
                              try go_wp2
                              go_roundg kj16
                              case measure => have := HJ7.out; have := HK2.out; have := HJ16.out; omega
                              case rel => exact ⟨(wrap64 (x12_2 + 1)), (t227), (t228), (t229), (by first | rfl | (simp; done) | (simp [*]; done)), H', ⟨by have := HJ7.out; have := HK2.out; have := HJ16.out; omega⟩, ⟨by (with_reducible repeat (first | refine blk_drewN ?_ _ | refine blk_drew ?_ | refine blk_alloc ?_ _)); refine blk_put (cs := #[.int .i64 t227, .int .i64 t228, .int .i64 x226002_2]) ?_ 2 _ rfl; (with_reducible repeat (first | refine blk_drewN ?_ _ | refine blk_drew ?_ | refine blk_alloc ?_ _)); refine blk_put (cs := #[.int .i64 t227, .int .i64 x226001_2, .int .i64 x226002_2]) ?_ 1 _ rfl; (with_reducible repeat (first | refine blk_drewN ?_ _ | refine blk_drew ?_ | refine blk_alloc ?_ _)); refine blk_put (cs := #[.int .i64 x226000_2, .int .i64 x226001_2, .int .i64 x226002_2]) ?_ 0 _ rfl; (with_reducible repeat (first | refine blk_drewN ?_ _ | refine blk_drew ?_ | refine blk_alloc ?_ _)); exact BK225.out⟩, ⟨by repeat (first | (with_reducible first | exact HB.out | apply below_alloc | apply pw_below_drewN | apply below_drew1 | refine below_set ?_ GE225.out) | exact HB.out)⟩⟩
                            · rw [if_neg c24] at H
                              exact absurd H (by simp)
                          · rw [if_neg c23] at H
                            exact absurd H (by simp)
                        · rw [if_neg c22] at H
                          have c22b0 : (x226002_2 == (wrap64 (ji12 - x12_2))) = false := beq_eq_false_iff_ne.mpr c22
                          have c22b1 : (x226002_2 != (wrap64 (ji12 - x12_2))) = true := bne_iff_ne.mpr c22
                          obtain rfl := Option.some.inj H
                          have hcz32_0 : wc.cell? ⟨gb225, 0, none⟩ = some (.int .i64 x226000_2) := (blk_cell BK225.out 0).trans rfl
                          have hcz32_1 : wc.cell? ⟨gb225, 1, none⟩ = some (.int .i64 x226001_2) := (blk_cell BK225.out 1).trans rfl
                          have hcz32_2 : wc.cell? ⟨gb225, 2, none⟩ = some (.int .i64 x226002_2) := (blk_cell BK225.out 2).trans rfl
                          have hfz32_0 := blk_frozen BK225.out 0
                          have hfz32_1 := blk_frozen BK225.out 1
                          have hfz32_2 := blk_frozen BK225.out 2
                          go_wp2
                          go_ret
                          exact ⟨by first | rfl | (simp [errW_none, errW_some] <;> rfl) | (simp only [← hji11, ← hji12]; first | rfl | (simp [errW_none, errW_some] <;> rfl)) | (simp [*, errW_none, errW_some] <;> rfl), by repeat (first | (with_reducible first | exact HB.out | apply below_alloc | apply pw_below_drewN | apply below_drew1 | refine below_set ?_ GE225.out) | exact HB.out)⟩
                      · rw [if_neg c21] at H
                        have c21b0 : (x226001_2 == x9_7) = false := beq_eq_false_iff_ne.mpr c21
                        have c21b1 : (x226001_2 != x9_7) = true := bne_iff_ne.mpr c21
                        obtain rfl := Option.some.inj H
                        have hcz33_0 : wc.cell? ⟨gb225, 0, none⟩ = some (.int .i64 x226000_2) := (blk_cell BK225.out 0).trans rfl
                        have hcz33_1 : wc.cell? ⟨gb225, 1, none⟩ = some (.int .i64 x226001_2) := (blk_cell BK225.out 1).trans rfl
                        have hcz33_2 : wc.cell? ⟨gb225, 2, none⟩ = some (.int .i64 x226002_2) := (blk_cell BK225.out 2).trans rfl
                        have hfz33_0 := blk_frozen BK225.out 0
                        have hfz33_1 := blk_frozen BK225.out 1
                        have hfz33_2 := blk_frozen BK225.out 2
                        go_wp2
                        go_ret
                        exact ⟨by first | rfl | (simp [errW_none, errW_some] <;> rfl) | (simp only [← hji11, ← hji12]; first | rfl | (simp [errW_none, errW_some] <;> rfl)) | (simp [*, errW_none, errW_some] <;> rfl), by repeat (first | (with_reducible first | exact HB.out | apply below_alloc | apply pw_below_drewN | apply below_drew1 | refine below_set ?_ GE225.out) | exact HB.out)⟩
                    · rw [if_neg c20] at H
                      have c20b0 : (x226000_2 == 0) = false := beq_eq_false_iff_ne.mpr c20
                      have c20b1 : (x226000_2 != 0) = true := bne_iff_ne.mpr c20
                      obtain rfl := Option.some.inj H
                      have hcz34_0 : wc.cell? ⟨gb225, 0, none⟩ = some (.int .i64 x226000_2) := (blk_cell BK225.out 0).trans rfl
                      have hcz34_1 : wc.cell? ⟨gb225, 1, none⟩ = some (.int .i64 x226001_2) := (blk_cell BK225.out 1).trans rfl
                      have hcz34_2 : wc.cell? ⟨gb225, 2, none⟩ = some (.int .i64 x226002_2) := (blk_cell BK225.out 2).trans rfl
                      have hfz34_0 := blk_frozen BK225.out 0
                      have hfz34_1 := blk_frozen BK225.out 1
                      have hfz34_2 := blk_frozen BK225.out 2
                      go_wp2
                      go_ret
                      exact ⟨by first | rfl | (simp [errW_none, errW_some] <;> rfl) | (simp only [← hji11, ← hji12]; first | rfl | (simp [errW_none, errW_some] <;> rfl)) | (simp [*, errW_none, errW_some] <;> rfl), by repeat (first | (with_reducible first | exact HB.out | apply below_alloc | apply pw_below_drewN | apply below_drew1 | refine below_set ?_ GE225.out) | exact HB.out)⟩
                  · replace c19 := Bool.eq_false_iff.mpr c19
                    subst c19
                    have H1 : (if (l2.length : Int) < ji12 then (some true) else (some (x226000_2 == x9_7 && (x226001_2 == 0 && (x226002_2 == 0))))) = some r := by rw [if_neg (show ¬ (false = true) by decide)] at H; exact H
                    clear H
                    have H := H1
                    clear H1
                    by_cases c35 : (l2.length : Int) < ji12
                    · rw [if_pos c35] at H
                      have c35b0 : decide ((l2.length : Int) < ji12) = true := decide_eq_true c35
                      clear c35
                      obtain rfl := Option.some.inj H
                      go_wp2
                      go_ret
                      exact ⟨by first | rfl | (simp [errW_none, errW_some] <;> rfl) | (simp only [← hji11, ← hji12]; first | rfl | (simp [errW_none, errW_some] <;> rfl)) | (simp [*, errW_none, errW_some] <;> rfl), by repeat (first | (with_reducible first | exact HB.out | apply below_alloc | apply pw_below_drewN | apply below_drew1 | refine below_set ?_ GE225.out) | exact HB.out)⟩
                    · rw [if_neg c35] at H
                      have c35b0 : decide ((l2.length : Int) < ji12) = false := decide_eq_false c35
                      clear c35
                      obtain rfl := Option.some.inj H
                      have hcz36_0 : wc.cell? ⟨gb225, 0, none⟩ = some (.int .i64 x226000_2) := (blk_cell BK225.out 0).trans rfl
                      have hcz36_1 : wc.cell? ⟨gb225, 1, none⟩ = some (.int .i64 x226001_2) := (blk_cell BK225.out 1).trans rfl
                      have hcz36_2 : wc.cell? ⟨gb225, 2, none⟩ = some (.int .i64 x226002_2) := (blk_cell BK225.out 2).trans rfl
                      have hfz36_0 := blk_frozen BK225.out 0
                      have hfz36_1 := blk_frozen BK225.out 1
                      have hfz36_2 := blk_frozen BK225.out 2
                      go_wp2
                      go_ret
                      exact ⟨by first | rfl | (simp [errW_none, errW_some] <;> rfl) | (simp only [← hji11, ← hji12]; first | rfl | (simp [errW_none, errW_some] <;> rfl)) | (simp [*, errW_none, errW_some] <;> rfl), by repeat (first | (with_reducible first | exact HB.out | apply below_alloc | apply pw_below_drewN | apply below_drew1 | refine below_set ?_ GE225.out) | exact HB.out)⟩
  · replace c5 := Bool.eq_false_iff.mpr c5
    subst c5
    have H1 : (some false) = some r := by rw [if_neg (show ¬ (false = true) by decide)] at H; exact H
    clear H
    have H := H1
    clear H1
    obtain rfl := Option.some.inj H
    go_enter Try.func8, Try.ntmps8
    go_wp2_with (first | ((with_reducible refine gate_callee (f := 9) rfl ?_); refine goesL_ (some 13) rfl rfl Try.func9 (by kernel_rfl) rfl #[] rfl (by (try simp only [List.map_toArray, List.map_cons, List.map_nil]); first | done | rfl | (simp only [List.length_drop, List.length_take]; rfl)) ?_; (with_reducible refine (paternosterlaw10_awake.calls  false _ A4.out).mono ?_); rintro e w37 ⟨rfl, hb⟩; refine ⟨_, rfl, ?_⟩; have n0_ := Aside0.mk (below_step (by repeat (first | (with_reducible first | exact HB.out | apply below_alloc | apply pw_below_drewN | apply below_drew1) | exact HB.out)) hb); clear HB; have HB := n0_; clear n0_; (try clear hb); (try clear hb2); (try clear hk); (try clear hi)))
    go_ret
    exact ⟨by first | rfl | (simp [errW_none, errW_some] <;> rfl) | (simp [*, errW_none, errW_some] <;> rfl), by repeat (first | (with_reducible first | exact HB.out | apply below_alloc | apply pw_below_drewN | apply below_drew1) | exact HB.out)⟩

/-- THE ONE PURE STATEMENT of paternosterlaw10_FeedDead: yours. -/
def paternosterlaw10_FeedDead.Pure : Prop := ∀ (a0 : Bool) (a1 : Int) (l2 : List Int), (Lit.int .i64 a1).wf = true → l2.length ≤ maxLen → l2.length * 1 ≤ 140737488351232 → (∀ x ∈ l2, (Lit.int .i8 x).wf = true) → ∃ k, paternosterlaw10_FeedDead.f k a0 a1 l2 = some true
theorem paternosterlaw10_FeedDead.walk (P : paternosterlaw10_FeedDead.Pure) (a0 : Bool) (a1 : Int) (a2 : Option Addr) (len2 cap2 : Nat) (z2 : List Int) (w : World) (w1 : (Lit.int .i64 a1).wf = true) (w2 : (a2 = none ∧ len2 = 0 ∧ cap2 = 0 ∧ z2 = []) ∨ ∃ x, a2 = some x ∧ len2 ≤ cap2 ∧ cap2 ≤ maxLen ∧ z2.length = cap2 ∧ (∀ i, i < z2.length → w.cell? (x.add i) = some (.int .i8 (z2.getD i 0))) ∧ ∀ n ∈ z2, (Lit.int .i8 n).wf = true) (y2 : len2 * 1 ≤ 140737488351232) :
    Calls Try.prog 8 #[.bool a0, .int .i64 a1, .slice a2 len2 cap2] w fun e w' => e = .returned (.bool true) ∧ Below w.heap.size w w' := by
  obtain ⟨l2, rfl, hr2, hm2, hw2, hc2⟩ := ReadsInt.ofRowC w2
  obtain ⟨k, h⟩ := P a0 a1 l2 w1 hm2 y2 hw2
  refine (paternosterlaw10_FeedDead.calls k a0 a1 _ _ l2 true w (Kd.C_of_reads (d := (0 : Int)) (h1 := fun _ => rfl) hr2) hc2 h).mono ?_
  rintro e w' ⟨rfl, hd⟩
  exact ⟨rfl, hd⟩

end Go.Proofs.Ytangjedacimmcaa.X
