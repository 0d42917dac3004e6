-- Written by a program of this session (wip/xprint/xprint.py runs the kit's print with hand-proved externs).
import Derived.Test.YtangjedacimmcaaXx0
import Derived.Test.YtangjedacimmcaaXx5
import Derived.Test.YtangjedacimmcaaFeedAwake
import Derived.Test.YtangjedacimmcaaFeedExt
namespace Go.Proofs.Ytangjedacimmcaa.X
open Go.RowKit Go.Proofs.YtangjedacimmcaaW.PrintWords Go.Proofs.YtangjedacimmcaaW.PrintLast Go.Proofs.YtangjedacimmcaaW.PrintMore
attribute [local go_sem] max2_int min2_int max_two min_two max_three min_three max_four min_four   -- for this text's walks alone
set_option linter.unusedVariables false
set_option linter.unusedSimpArgs false

/-! ### paternosterlaw10_FeedKnows: function 4 -/
def paternosterlaw10_FeedKnows.l0 : Nat → Int → List Int → Int → Int → Int → Int → Int → Int → Int → Int → Int → Int → Option (Bool)
  | 0, _, _, _, _, _, _, _, _, _, _, _, _ => none
  | k + 1, x0, x1, x7, x138000, x138001, x138002, x138003, x138004, x138005, x138006, x138007, x138008 => if x7 < (x1.length : Int) then (if 0 ≤ x7 then ((feed_Known_Tell.f x138000 x138001 x138002 x138003 x138004 x138005 x138006 x138007 x138008 (rd x1 x7)).bind fun bt139 => (if 0 ≤ (wrap64 (x7 + 1)) then (if (wrap64 (x7 + 1)) ≤ (x1.length : Int) then ((paternosterref10_Known.f k x0 (x1.take ((wrap64 (x7 + 1)) : Int).toNat)).bind fun t151 => (if bt139.2.2.2.2.2.2.2.2.2 = t151 then (paternosterlaw10_FeedKnows.l0 k x0 x1 (wrap64 (x7 + 1)) bt139.1 bt139.2.1 bt139.2.2.1 bt139.2.2.2.1 bt139.2.2.2.2.1 bt139.2.2.2.2.2.1 bt139.2.2.2.2.2.2.1 bt139.2.2.2.2.2.2.2.1 bt139.2.2.2.2.2.2.2.2.1) else (some false))) else (none)) else (none))) else (none)) else (some true)
def paternosterlaw10_FeedKnows.f (k : Nat) (a0 : Int) (l1 : List Int) : Option (Bool) := (paternosterlaw10_awake.f).bind fun t127 => (if t127 = true then (if (l1.length : Int) > 200 then (some true) else ((feed_New.f a0).bind fun bt128 => (paternosterlaw10_FeedKnows.l0 k a0 l1 0 bt128.1 bt128.2.1 bt128.2.2.1 bt128.2.2.2.1 bt128.2.2.2.2.1 bt128.2.2.2.2.2.1 bt128.2.2.2.2.2.2.1 bt128.2.2.2.2.2.2.2.1 bt128.2.2.2.2.2.2.2.2))) else (some false))
theorem paternosterlaw10_FeedKnows.mono_l : ∀ k, (∀ y0 y1 y2 y3 y4 y5 y6 y7 y8 y9 y10 y11, LeO (paternosterlaw10_FeedKnows.l0 k y0 y1 y2 y3 y4 y5 y6 y7 y8 y9 y10 y11) (paternosterlaw10_FeedKnows.l0 (k + 1) y0 y1 y2 y3 y4 y5 y6 y7 y8 y9 y10 y11))
  | 0 => fun _ _ _ _ _ _ _ _ _ _ _ _ r h => by simp [paternosterlaw10_FeedKnows.l0] at h
  | k + 1 => by
    have ih0 := paternosterlaw10_FeedKnows.mono_l k
    · intro y0 y1 y2 y3 y4 y5 y6 y7 y8 y9 y10 y11
      unfold paternosterlaw10_FeedKnows.l0
      repeat' first
      | (with_reducible exact ih0 _ _ _ _ _ _ _ _ _ _ _ _)
      | (with_reducible exact paternosterref10_Known.mono _ _ _)
      | (with_reducible exact LeO.refl _)
      | (with_reducible exact LeO.none _)
      | (with_reducible refine LeO.ite ?_ ?_)
      | (with_reducible refine LeO.bind ?_ (fun _ => ?_))
      | exact ih0 _ _ _ _ _ _ _ _ _ _ _ _
      | exact paternosterref10_Known.mono _ _ _
      | exact LeO.none _
      | refine LeO.ite ?_ ?_
      | refine LeO.bind ?_ (fun _ => ?_)
theorem paternosterlaw10_FeedKnows.mono : ∀ a0 a1 k, LeO (paternosterlaw10_FeedKnows.f k a0 a1) (paternosterlaw10_FeedKnows.f (k + 1) a0 a1) := by
  intro a0 a1 k
  have ih0 := paternosterlaw10_FeedKnows.mono_l k
  unfold paternosterlaw10_FeedKnows.f
  repeat' first
      | (with_reducible exact ih0 _ _ _ _ _ _ _ _ _ _ _ _)
      | (with_reducible exact paternosterref10_Known.mono _ _ _)
      | (with_reducible exact LeO.refl _)
      | (with_reducible exact LeO.none _)
      | (with_reducible refine LeO.ite ?_ ?_)
      | (with_reducible refine LeO.bind ?_ (fun _ => ?_))
      | exact ih0 _ _ _ _ _ _ _ _ _ _ _ _
      | exact paternosterref10_Known.mono _ _ _
      | exact LeO.none _
      | refine LeO.ite ?_ ?_
      | refine LeO.bind ?_ (fun _ => ?_)
def paternosterlaw10_FeedKnows.T10 : Bool × List (List Nat × List Nat) := (true, [([], []), ([], []), ([], []), ([1, 2], [1, 2]), ([3], [3]), ([0, 4], [0, 4]), ([5], [5]), ([6], [6]), ([6], [6]), ([], []), ([9, 7, 5, 0, 1, 2, 3, 4, 5, 6, 7, 9], [7, 9]), ([8, 10, 0, 1, 2, 3, 4, 5, 6, 7, 8, 9, 10], [8])])
def paternosterlaw10_FeedKnows.B10 : List Nat := [0, 0, 0, 6, 14, 31, 63, 127, 127, 0, 767, 2047]
theorem paternosterlaw10_FeedKnows.tab10 : rtab .any (opsOf Try.f4 10) = paternosterlaw10_FeedKnows.T10 := by kernel_rfl
theorem paternosterlaw10_FeedKnows.bits10 : waitsOk paternosterlaw10_FeedKnows.T10.2 paternosterlaw10_FeedKnows.B10 = true := by kernel_rfl
set_option maxHeartbeats 8000000 in
set_option maxRecDepth 100000 in
theorem paternosterlaw10_FeedKnows.calls (k : Nat) (a0 : Int) (A1 : Option Addr) (c1 : Nat) (l1 : List Int) (r : Bool) (w : World) (hr1 : Kd.C (Kd.int .i64) w A1 l1.length l1) (hc1 : l1.length ≤ c1) (h : paternosterlaw10_FeedKnows.f k a0 l1 = some r) :
    Calls Try.prog 4 #[.int .i64 a0, .slice A1 l1.length c1] w fun e w' => e = .returned (.bool r) ∧ Below w.heap.size w w' := by
  have hu37 := Try.underlying37
  have HR1 := Aside0.mk hr1
  have HC1 := Aside0.mk hc1
  clear hr1 hc1
  have HB := Aside0.mk (Below.refl w.heap.size w)
  have H : ((paternosterlaw10_awake.f).bind fun t127 => (if t127 = true then (if (l1.length : Int) > 200 then (some true) else ((feed_New.f a0).bind fun bt128 => (paternosterlaw10_FeedKnows.l0 k a0 l1 0 bt128.1 bt128.2.1 bt128.2.2.1 bt128.2.2.2.1 bt128.2.2.2.2.1 bt128.2.2.2.2.2.1 bt128.2.2.2.2.2.2.1 bt128.2.2.2.2.2.2.2.1 bt128.2.2.2.2.2.2.2.2))) else (some false))) = some r := h
  clear h
  replace H := Option.bind_eq_some_iff.mp H
  obtain ⟨t127, A30, H⟩ := H
  replace H : (if t127 = true then (if (l1.length : Int) > 200 then (some true) else ((feed_New.f a0).bind fun bt128 => (paternosterlaw10_FeedKnows.l0 k a0 l1 0 bt128.1 bt128.2.1 bt128.2.2.1 bt128.2.2.2.1 bt128.2.2.2.2.1 bt128.2.2.2.2.2.1 bt128.2.2.2.2.2.2.1 bt128.2.2.2.2.2.2.2.1 bt128.2.2.2.2.2.2.2.2))) else (some false)) = some r := H
  have A3 := Aside0.mk A30
  clear A30
  by_cases c4 : t127 = true
  · subst c4
    have H1 : (if (l1.length : Int) > 200 then (some true) else ((feed_New.f a0).bind fun bt128 => (paternosterlaw10_FeedKnows.l0 k a0 l1 0 bt128.1 bt128.2.1 bt128.2.2.1 bt128.2.2.2.1 bt128.2.2.2.2.1 bt128.2.2.2.2.2.1 bt128.2.2.2.2.2.2.1 bt128.2.2.2.2.2.2.2.1 bt128.2.2.2.2.2.2.2.2))) = some r := by rw [if_pos rfl] at H; exact H
    clear H
    have H := H1
    clear H1
    by_cases c5 : (l1.length : Int) > 200
    · rw [if_pos c5] at H
      have c5b0 : decide (200 < (l1.length : Int)) = true := decide_eq_true c5
      have c5b1 : decide (200 < l1.length) = true := decide_eq_true (by omega)
      clear c5
      obtain rfl := Option.some.inj H
      go_enter Try.func4, Try.ntmps4
      go_wp2_with (first | ((with_reducible refine gate_callee (f := 9) rfl ?_); refine goesL_ (some 10) rfl rfl Try.func9 (by kernel_rfl) rfl #[] rfl (by (try simp only [List.map_toArray, List.map_cons, List.map_nil]); first | done | rfl | (simp only [List.length_drop, List.length_take]; rfl)) ?_; (with_reducible refine (paternosterlaw10_awake.calls  true _ A3.out).mono ?_); rintro e w6 ⟨rfl, hb⟩; refine ⟨_, rfl, ?_⟩; have n0_ := Aside0.mk (below_step (by repeat (first | (with_reducible first | exact HB.out | apply below_alloc | apply pw_below_drewN | apply below_drew1) | exact HB.out)) hb); clear HB; have HB := n0_; clear n0_; (try clear hb); (try clear hb2); (try clear hk); (try clear hi)))
      go_ret
      exact ⟨by first | rfl | (simp [errW_none, errW_some] <;> rfl) | (simp [*, errW_none, errW_some] <;> rfl), by repeat (first | (with_reducible first | exact HB.out | apply below_alloc | apply pw_below_drewN | apply below_drew1) | exact HB.out)⟩
    · rw [if_neg c5] at H
      have c5b0 : decide (200 < (l1.length : Int)) = false := decide_eq_false c5
      have c5b1 : decide (200 < l1.length) = false := decide_eq_false (by omega)
      clear c5
      replace H := Option.bind_eq_some_iff.mp H
      obtain ⟨⟨t128, t129, t130, t131, t132, t133, t134, t135, t136⟩, A70, H⟩ := H
      replace H : (paternosterlaw10_FeedKnows.l0 k a0 l1 0 t128 t129 t130 t131 t132 t133 t134 t135 t136) = some r := H
      have A7 := Aside0.mk A70
      clear A70
      have H' := Aside0.mk H
      clear H
      go_enter Try.func4, Try.ntmps4
      go_wp2_with (first | ((with_reducible refine gate_callee (f := 9) rfl ?_); refine goesL_ (some 10) rfl rfl Try.func9 (by kernel_rfl) rfl #[] rfl (by (try simp only [List.map_toArray, List.map_cons, List.map_nil]); first | done | rfl | (simp only [List.length_drop, List.length_take]; rfl)) ?_; (with_reducible refine (paternosterlaw10_awake.calls  true _ A3.out).mono ?_); rintro e w8 ⟨rfl, hb⟩; refine ⟨_, rfl, ?_⟩; have n0_ := Aside0.mk (below_step (by repeat (first | (with_reducible first | exact HB.out | apply below_alloc | apply pw_below_drewN | apply below_drew1) | exact HB.out)) hb); clear HB; have HB := n0_; clear n0_; (try clear hb); (try clear hb2); (try clear hk); (try clear hi)) | ((with_reducible refine gate_callee (f := 15) rfl ?_); refine goesL_ (some 17) rfl rfl Try.func15 (by kernel_rfl) rfl #[.int .i64 a0] rfl (by (try simp only [List.map_toArray, List.map_cons, List.map_nil]); first | done | rfl | (simp only [List.length_drop, List.length_take]; rfl)) ?_; (with_reducible refine (feed_New.calls a0 t128 t129 t130 t131 t132 t133 t134 t135 t136 _ A7.out).mono ?_); rintro e w9 ⟨rfl, hb⟩; refine ⟨_, rfl, ?_⟩; have n0_ := Aside0.mk (below_step (by repeat (first | (with_reducible first | exact HB.out | apply below_alloc | apply pw_below_drewN | apply below_drew1) | exact HB.out)) hb); clear HB; have HB := n0_; clear n0_; (try clear hb); (try clear hb2); (try clear hk); (try clear hi)) | ((with_reducible refine gate_dst (N := 6) rfl ?_); refine box_event ?hg (N := 6) ?hd (cs := #[.int .i64 0, .int .i64 0, .int .i64 0, .int .i64 0, .int .i64 0, .int .i64 0, .int .i64 0, .int .i64 0, .int .i64 0]) (t := 37) ?hr ?_; (case hd => rfl); (case hg => rfl); (case hr => first | (go_simp; done) | (go_simp; rfl)); intro gb137 hg w10 hbox hb; have n0_ := Aside0.mk (below_step (by repeat (first | (with_reducible first | exact HB.out | apply below_alloc | apply pw_below_drewN | apply below_drew1) | exact HB.out)) hb); have n1_ := Aside0.mk (hbox); have n2_ := Aside0.mk ((by rw [hg]; exact (below_size (by repeat (first | (with_reducible first | exact HB.out | apply below_alloc | apply pw_below_drewN | apply below_drew1) | exact HB.out))) : w.heap.size ≤ gb137)); have n3_ := Aside0.mk ((by rw [hg]; exact (below_size (by repeat (first | (with_reducible first | exact HB.out | apply below_alloc | apply pw_below_drewN | apply below_drew1) | exact HB.out))) : w.heap.size ≤ gb137)); clear HB; have HB := n0_; have BK137 := n1_; have GW137 := n2_; have GE137 := n3_; clear n0_ n1_ n2_ n3_; clear hb hbox hg; have hcz11_0 : w10.cell? ⟨gb137, 0, none⟩ = some (.int .i64 0) := (blk_cell BK137.out 0).trans rfl; have hcz11_1 : w10.cell? ⟨gb137, 1, none⟩ = some (.int .i64 0) := (blk_cell BK137.out 1).trans rfl; have hcz11_2 : w10.cell? ⟨gb137, 2, none⟩ = some (.int .i64 0) := (blk_cell BK137.out 2).trans rfl; have hcz11_3 : w10.cell? ⟨gb137, 3, none⟩ = some (.int .i64 0) := (blk_cell BK137.out 3).trans rfl; have hcz11_4 : w10.cell? ⟨gb137, 4, none⟩ = some (.int .i64 0) := (blk_cell BK137.out 4).trans rfl; have hcz11_5 : w10.cell? ⟨gb137, 5, none⟩ = some (.int .i64 0) := (blk_cell BK137.out 5).trans rfl; have hcz11_6 : w10.cell? ⟨gb137, 6, none⟩ = some (.int .i64 0) := (blk_cell BK137.out 6).trans rfl; have hcz11_7 : w10.cell? ⟨gb137, 7, none⟩ = some (.int .i64 0) := (blk_cell BK137.out 7).trans rfl; have hcz11_8 : w10.cell? ⟨gb137, 8, none⟩ = some (.int .i64 0) := (blk_cell BK137.out 8).trans rfl; have hfz11_0 := blk_frozen BK137.out 0; have hfz11_1 := blk_frozen BK137.out 1; have hfz11_2 := blk_frozen BK137.out 2; have hfz11_3 := blk_frozen BK137.out 3; have hfz11_4 := blk_frozen BK137.out 4; have hfz11_5 := blk_frozen BK137.out 5; have hfz11_6 := blk_frozen BK137.out 6; have hfz11_7 := blk_frozen BK137.out 7; have hfz11_8 := blk_frozen BK137.out 8))
      go_loopg [7] k (fun kq v7 w' => ∃ (x7_1 : Int) (x138000_1 : Int) (x138001_1 : Int) (x138002_1 : Int) (x138003_1 : Int) (x138004_1 : Int) (x138005_1 : Int) (x138006_1 : Int) (x138007_1 : Int) (x138008_1 : Int), v7 = .int .i64 x7_1 ∧ Aside0 (paternosterlaw10_FeedKnows.l0 kq a0 l1 x7_1 x138000_1 x138001_1 x138002_1 x138003_1 x138004_1 x138005_1 x138006_1 x138007_1 x138008_1 = some r) ∧ Aside0 (kq ≤ k) ∧ Aside0 (w'.heap[gb137]? = some (.cells #[.int .i64 x138000_1, .int .i64 x138001_1, .int .i64 x138002_1, .int .i64 x138003_1, .int .i64 x138004_1, .int .i64 x138005_1, .int .i64 x138006_1, .int .i64 x138007_1, .int .i64 x138008_1] 37 (0, 0))) ∧ Aside0 (Below w.heap.size w w'))
      case atStart => exact ⟨(0), (t128), (t129), (t130), (t131), (t132), (t133), (t134), (t135), (t136), (by first | rfl | (simp; done) | (simp [*]; done)), H', ⟨Nat.le_refl _⟩, ⟨by (with_reducible repeat (first | refine blk_drewN ?_ _ | refine blk_drew ?_ | refine blk_alloc ?_ _)); refine blk_put (cs := #[.int .i64 t128, .int .i64 t129, .int .i64 t130, .int .i64 t131, .int .i64 t132, .int .i64 t133, .int .i64 t134, .int .i64 t135, .int .i64 0]) ?_ 8 _ rfl; (with_reducible repeat (first | refine blk_drewN ?_ _ | refine blk_drew ?_ | refine blk_alloc ?_ _)); refine blk_put (cs := #[.int .i64 t128, .int .i64 t129, .int .i64 t130, .int .i64 t131, .int .i64 t132, .int .i64 t133, .int .i64 t134, .int .i64 0, .int .i64 0]) ?_ 7 _ rfl; (with_reducible repeat (first | refine blk_drewN ?_ _ | refine blk_drew ?_ | refine blk_alloc ?_ _)); refine blk_put (cs := #[.int .i64 t128, .int .i64 t129, .int .i64 t130, .int .i64 t131, .int .i64 t132, .int .i64 t133, .int .i64 0, .int .i64 0, .int .i64 0]) ?_ 6 _ rfl; (with_reducible repeat (first | refine blk_drewN ?_ _ | refine blk_drew ?_ | refine blk_alloc ?_ _)); refine blk_put (cs := #[.int .i64 t128, .int .i64 t129, .int .i64 t130, .int .i64 t131, .int .i64 t132, .int .i64 0, .int .i64 0, .int .i64 0, .int .i64 0]) ?_ 5 _ rfl; (with_reducible repeat (first | refine blk_drewN ?_ _ | refine blk_drew ?_ | refine blk_alloc ?_ _)); refine blk_put (cs := #[.int .i64 t128, .int .i64 t129, .int .i64 t130, .int .i64 t131, .int .i64 0, .int .i64 0, .int .i64 0, .int .i64 0, .int .i64 0]) ?_ 4 _ rfl; (with_reducible repeat (first | refine blk_drewN ?_ _ | refine blk_drew ?_ | refine blk_alloc ?_ _)); refine blk_put (cs := #[.int .i64 t128, .int .i64 t129, .int .i64 t130, .int .i64 0, .int .i64 0, .int .i64 0, .int .i64 0, .int .i64 0, .int .i64 0]) ?_ 3 _ rfl; (with_reducible repeat (first | refine blk_drewN ?_ _ | refine blk_drew ?_ | refine blk_alloc ?_ _)); refine blk_put (cs := #[.int .i64 t128, .int .i64 t129, .int .i64 0, .int .i64 0, .int .i64 0, .int .i64 0, .int .i64 0, .int .i64 0, .int .i64 0]) ?_ 2 _ rfl; (with_reducible repeat (first | refine blk_drewN ?_ _ | refine blk_drew ?_ | refine blk_alloc ?_ _)); refine blk_put (cs := #[.int .i64 t128, .int .i64 0, .int .i64 0, .int .i64 0, .int .i64 0, .int .i64 0, .int .i64 0, .int .i64 0, .int .i64 0]) ?_ 1 _ rfl; (with_reducible repeat (first | refine blk_drewN ?_ _ | refine blk_drew ?_ | refine blk_alloc ?_ _)); refine blk_put (cs := #[.int .i64 0, .int .i64 0, .int .i64 0, .int .i64 0, .int .i64 0, .int .i64 0, .int .i64 0, .int .i64 0, .int .i64 0]) ?_ 0 _ rfl; (with_reducible repeat (first | refine blk_drewN ?_ _ | refine blk_drew ?_ | refine blk_alloc ?_ _)); exact BK137.out⟩, ⟨by repeat (first | (with_reducible first | exact HB.out | apply below_alloc | apply pw_below_drewN | apply below_drew1 | refine below_set ?_ GE137.out) | exact HB.out)⟩⟩
      case round =>
        clear H'
        try clear c1
        try clear p2
        try clear c4
        try clear c5
        try clear c5b0
        try clear c5b1
        try clear c9
        try clear hcz11_0
        try clear hcz11_1
        try clear hcz11_2
        try clear hcz11_3
        try clear hcz11_4
        try clear hcz11_5
        try clear hcz11_6
        try clear hcz11_7
        try clear hcz11_8
        try clear hfz11_0
        try clear hfz11_1
        try clear hfz11_2
        try clear hfz11_3
        try clear hfz11_4
        try clear hfz11_5
        try clear hfz11_6
        try clear hfz11_7
        try clear hfz11_8
        obtain ⟨x7_1, x138000_1, x138001_1, x138002_1, x138003_1, x138004_1, x138005_1, x138006_1, x138007_1, x138008_1, rfl, HA, HK1, BK137, HB⟩ := hrel
        cases gk with
        | zero => exact absurd HA.out (by simp [paternosterlaw10_FeedKnows.l0])
        | succ k1 =>
          have H := HA.out
          clear HA
          simp only [paternosterlaw10_FeedKnows.l0] at H
          by_cases c12 : x7_1 < (l1.length : Int)
          · rw [if_pos c12] at H
            have c12b0 : decide (x7_1 < (l1.length : Int)) = true := decide_eq_true c12
            clear c12
            by_cases c13 : 0 ≤ x7_1
            · rw [if_pos c13] at H
              have c13b0 : decide (0 ≤ x7_1) = true := decide_eq_true c13
              clear c13
              replace H := Option.bind_eq_some_iff.mp H
              obtain ⟨⟨t139, t140, t141, t142, t143, t144, t145, t146, t147, t148⟩, A140, H⟩ := H
              replace H : (if 0 ≤ (wrap64 (x7_1 + 1)) then (if (wrap64 (x7_1 + 1)) ≤ (l1.length : Int) then ((paternosterref10_Known.f k1 a0 (l1.take ((wrap64 (x7_1 + 1)) : Int).toNat)).bind fun t151 => (if t148 = t151 then (paternosterlaw10_FeedKnows.l0 k1 a0 l1 (wrap64 (x7_1 + 1)) t139 t140 t141 t142 t143 t144 t145 t146 t147) else (some false))) else (none)) else (none)) = some r := H
              have A14 := Aside0.mk A140
              clear A140
              obtain ⟨ji15, hji15⟩ : ∃ j_ : Int, (wrap64 (x7_1 + 1)) = j_ := ⟨_, rfl⟩
              replace H : (if 0 ≤ (ji15) then (if (ji15) ≤ (l1.length : Int) then ((paternosterref10_Known.f k1 a0 (l1.take ((ji15) : Int).toNat)).bind fun t151 => (if t148 = t151 then (paternosterlaw10_FeedKnows.l0 k1 a0 l1 ji15 t139 t140 t141 t142 t143 t144 t145 t146 t147) else (some false))) else (none)) else (none)) = some r := by first | (rw [hji15] at H; exact H) | (simp only [hji15] at H ⊢; exact H)
              (try rw [hji15] at A14)
              have hji15w : (IntKind.i64.wrap (x7_1 + 1)) = ji15 := (i64_w _).trans hji15
              by_cases c16 : 0 ≤ (ji15)
              · rw [if_pos c16] at H
                have c16b0 := eq_true c16
                have c16b1 : decide (0 ≤ (ji15)) = true := decide_eq_true c16
                clear c16
                by_cases c17 : (ji15) ≤ (l1.length : Int)
                · rw [if_pos c17] at H
                  have c17b0 := eq_true c17
                  have c17b1 : decide ((ji15) ≤ (l1.length : Int)) = true := decide_eq_true c17
                  clear c17
                  replace H := Option.bind_eq_some_iff.mp H
                  obtain ⟨t151, A180, H⟩ := H
                  replace H : (if t148 = t151 then (paternosterlaw10_FeedKnows.l0 k1 a0 l1 ji15 t139 t140 t141 t142 t143 t144 t145 t146 t147) else (some false)) = some r := H
                  have A18 := Aside0.mk A180
                  clear A180
                  by_cases c19 : t148 = t151
                  · rw [if_pos c19] at H
                    have c19b0 : (t148 == t151) = true := beq_iff_eq.mpr c19
                    have c19b1 : (t148 != t151) = false := bne_eq_false_iff_eq.mpr c19
                    clear c19
                    have H' := Aside0.mk H
                    clear H
                    try go_wp2
                    have n0_ := Aside0.mk (blk_drew BK137.out)
                    have n1_ := Aside0.mk (below_drew1 HB.out)
                    clear BK137
                    clear HB
                    have BK137 := n0_
                    have HB := n1_
                    clear n0_ n1_
                    have p138 : 0 ≤ (x7_1 : Int) := of_decide_eq_true (by first | (with_reducible assumption) | assumption)
                    have q138 : x7_1 < (l1.length : Int) := of_decide_eq_true (by first | (with_reducible assumption) | assumption)
                    obtain ⟨ad138, e138, hx138_0⟩ := Kd.at_int HR1.out x7_1 p138 q138
                    have hw138_0 := hx138_0
                    cases e138
                    replace hx138_0 := (HB.out.cell (World.block_lt_of_cell? w _ hx138_0)).trans hx138_0
                    replace p138 := eq_true p138
                    replace q138 := eq_true q138
                    refine start_ (n := 12) (S := fun w' => w'.cell? ⟨gb137, 0, none⟩ = some (.int .i64 x138000_1) ∧ w'.cell? ⟨gb137, 1, none⟩ = some (.int .i64 x138001_1) ∧ w'.cell? ⟨gb137, 2, none⟩ = some (.int .i64 x138002_1) ∧ w'.cell? ⟨gb137, 3, none⟩ = some (.int .i64 x138003_1) ∧ w'.cell? ⟨gb137, 4, none⟩ = some (.int .i64 x138004_1) ∧ w'.cell? ⟨gb137, 5, none⟩ = some (.int .i64 x138005_1) ∧ w'.cell? ⟨gb137, 6, none⟩ = some (.int .i64 x138006_1) ∧ w'.cell? ⟨gb137, 7, none⟩ = some (.int .i64 x138007_1) ∧ w'.cell? ⟨gb137, 8, none⟩ = some (.int .i64 x138008_1) ∧ w'.cell? (ad138.add (x7_1).toNat) = some (.int .i64 (rd l1 x7_1))) (ds := []) #[false, false, false, false, false, false, false, false, false, false, false, false] (by kernel_rfl) rfl rfl ⟨(blk_cell BK137.out 0).trans rfl, (blk_cell BK137.out 1).trans rfl, (blk_cell BK137.out 2).trans rfl, (blk_cell BK137.out 3).trans rfl, (blk_cell BK137.out 4).trans rfl, (blk_cell BK137.out 5).trans rfl, (blk_cell BK137.out 6).trans rfl, (blk_cell BK137.out 7).trans rfl, (blk_cell BK137.out 8).trans rfl, ((HB.out.cell (World.block_lt_of_cell? w _ hw138_0)).trans hw138_0)⟩ (fun hHeld => ?_); refine with_tabW paternosterlaw10_FeedKnows.tab10 paternosterlaw10_FeedKnows.bits10 (fun HT_ HW_ => ?_)
                    generalize wr.drew = w20 at BK137 HB hx138_0 hHeld ⊢
                    refine pure_ (i := 1) (N := some 26) (v := ?_) (a' := ?_) #[false, true, false, false, false, false, false, false, false, false, false, false] rfl rfl (any_of HT_.out (by kernel_rfl)) (fun _ _ _ h => h) (Or.inl ⟨by rfl, ?_⟩) ?_ ?_
                    rotate_left
                    · intro w'
                      go_simp
                      with_reducible rfl
                    rotate_left
                    · simp only [Act.put, List.setIfInBounds_toArray, List.set_cons_zero, List.set_cons_succ, i64_w, i32_w]
                      rfl
                    refine pure_ (i := 2) (N := some 27) (v := ?_) (a' := ?_) #[false, true, true, false, false, false, false, false, false, false, false, false] rfl rfl (any_of HT_.out (by kernel_rfl)) (fun _ _ _ h => h) (Or.inl ⟨by rfl, ?_⟩) ?_ ?_
                    rotate_left
                    · intro w'
                      go_simp
                      with_reducible rfl
                    rotate_left
                    · simp only [Act.put, List.setIfInBounds_toArray, List.set_cons_zero, List.set_cons_succ, i64_w, i32_w]
                      rfl
                    refine pure_ (i := 3) (N := some 28) (v := ?_) (a' := ?_) #[false, true, true, true, false, false, false, false, false, false, false, false] rfl rfl (any_of HT_.out (by kernel_rfl)) (fun _ _ _ h => h) (Or.inl ⟨by rfl, ?_⟩) ?_ ?_
                    rotate_left
                    · intro w'
                      go_simp
                      with_reducible rfl
                    rotate_left
                    · simp only [Act.put, List.setIfInBounds_toArray, List.set_cons_zero, List.set_cons_succ, i64_w, i32_w]
                      rfl
                    refine take_ (i := 0) (N := some 25) (v := ?_) (a' := ?_) #[true, true, true, true, false, false, false, false, false, false, false, false] rfl rfl (take_ofW HT_.out HW_.out (by kernel_rfl)) (fun _ _ _ h => h) (Or.inl ⟨by rfl, ?_⟩) hHeld ?_ ?_
                    rotate_left
                    · rintro w' ⟨s0, s1, s2, s3, s4, s5, s6, s7, s8, s9⟩
                      go_simp
                      with_reducible rfl
                    rotate_left
                    · simp only [Act.put, List.setIfInBounds_toArray, List.set_cons_zero, List.set_cons_succ, i64_w, i32_w]
                      rfl
                    refine take_ (i := 4) (N := some 29) (v := ?_) (a' := ?_) #[true, true, true, true, true, false, false, false, false, false, false, false] rfl rfl (take_ofW HT_.out HW_.out (by kernel_rfl)) (fun _ _ _ h => h) (Or.inl ⟨by rfl, ?_⟩) hHeld ?_ ?_
                    rotate_left
                    · rintro w' ⟨s0, s1, s2, s3, s4, s5, s6, s7, s8, s9⟩
                      go_simp
                      with_reducible rfl
                    rotate_left
                    · simp only [Act.put, List.setIfInBounds_toArray, List.set_cons_zero, List.set_cons_succ, i64_w, i32_w]
                      rfl
                    refine join_ (σ := Nat) 2 #[true, true, true, true, true, true, true, true, true, true, false, false] (fun s_ => [(30, .tuple #[.agg #[.int .i64 t139, .int .i64 t140, .int .i64 t141, .int .i64 t142, .int .i64 t143, .int .i64 t144, .int .i64 t145, .int .i64 t146, .int .i64 t147], .int .i64 t148]), (8, .pointer (some ⟨s_, 0, none⟩)), (24, .tuple #[.agg #[.int .i64 t139, .int .i64 t140, .int .i64 t141, .int .i64 t142, .int .i64 t143, .int .i64 t144, .int .i64 t145, .int .i64 t146, .int .i64 t147], .int .i64 t148]), (31, .agg #[.int .i64 t139, .int .i64 t140, .int .i64 t141, .int .i64 t142, .int .i64 t143, .int .i64 t144, .int .i64 t145, .int .i64 t146, .int .i64 t147]), (32, .int .i64 t148)]) (fun s_ w' => (w'.cell? ⟨gb137, 0, none⟩ = some (.int .i64 x138000_1) ∧ w'.cell? ⟨gb137, 1, none⟩ = some (.int .i64 x138001_1) ∧ w'.cell? ⟨gb137, 2, none⟩ = some (.int .i64 x138002_1) ∧ w'.cell? ⟨gb137, 3, none⟩ = some (.int .i64 x138003_1) ∧ w'.cell? ⟨gb137, 4, none⟩ = some (.int .i64 x138004_1) ∧ w'.cell? ⟨gb137, 5, none⟩ = some (.int .i64 x138005_1) ∧ w'.cell? ⟨gb137, 6, none⟩ = some (.int .i64 x138006_1) ∧ w'.cell? ⟨gb137, 7, none⟩ = some (.int .i64 x138007_1) ∧ w'.cell? ⟨gb137, 8, none⟩ = some (.int .i64 x138008_1) ∧ w'.cell? (ad138.add (x7_1).toNat) = some (.int .i64 (rd l1 x7_1))) ∧ (w'.heap[gb137]? = some (.cells #[.int .i64 x138000_1, .int .i64 x138001_1, .int .i64 x138002_1, .int .i64 x138003_1, .int .i64 x138004_1, .int .i64 x138005_1, .int .i64 x138006_1, .int .i64 x138007_1, .int .i64 x138008_1] 37 (0, 0))) ∧ (w'.heap[s_]? = some (.cells #[.int .i64 0, .int .i64 0, .int .i64 0, .int .i64 0, .int .i64 0, .int .i64 0, .int .i64 0, .int .i64 0, .int .i64 0] 37 (0, 0))) ∧ (w.heap.size ≤ s_) ∧ (w.heap.size ≤ s_) ∧ (gb137 ≠ s_) ∧ (s_ ≠ gb137) ∧ (Below w.heap.size w w')) ?_ ?_
                    rotate_left
                    · intro hCont
                      refine two_ (i := 5) (j := 9) (Ni := some 30) (Nj := some 8) #[true, true, true, true, true, true, false, false, false, false, false, false] #[true, true, true, true, true, false, false, false, false, true, false, false] rfl rfl rfl rfl (two_of HT_.out (by kernel_rfl)) (by decide) (by decide) (fun K hK => ?_) (fun K hK => ?_)
                      · skip
                        refine goes_ Try.func16 (by kernel_rfl) rfl #[.agg #[.int .i64 x138000_1, .int .i64 x138001_1, .int .i64 x138002_1, .int .i64 x138003_1, .int .i64 x138004_1, .int .i64 x138005_1, .int .i64 x138006_1, .int .i64 x138007_1, .int .i64 x138008_1], .int .i64 (rd l1 x7_1)] (by rfl) rfl rfl (by (try simp only [List.map_toArray, List.map_cons, List.map_nil]); first | done | rfl | (simp only [List.length_drop, List.length_take]; rfl)) ?_
                        with_reducible refine (feed_Known_Tell.calls x138000_1 x138001_1 x138002_1 x138003_1 x138004_1 x138005_1 x138006_1 x138007_1 x138008_1 (rd l1 x7_1) t139 t140 t141 t142 t143 t144 t145 t146 t147 t148 _ A14.out).mono ?_
                        rintro e w21 ⟨rfl, hb⟩
                        refine ⟨_, rfl, ?_⟩
                        have n0_ := Aside0.mk (blk_below (g := gb137) (o := .cells #[.int .i64 x138000_1, .int .i64 x138001_1, .int .i64 x138002_1, .int .i64 x138003_1, .int .i64 x138004_1, .int .i64 x138005_1, .int .i64 x138006_1, .int .i64 x138007_1, .int .i64 x138008_1] 37 (0, 0)) (by (with_reducible repeat (first | refine blk_drewN ?_ _ | refine blk_drew ?_ | refine blk_alloc ?_ _)); exact BK137.out) hb)
                        have n1_ := Aside0.mk (below_step (by repeat (first | (with_reducible first | exact HB.out | apply below_alloc | apply pw_below_drewN | apply below_drew1 | refine below_set ?_ GE137.out) | exact HB.out)) hb)
                        clear BK137
                        clear HB
                        have BK137 := n0_
                        have HB := n1_
                        clear n0_ n1_
                        (try clear hb)
                        (try clear hb2)
                        (try clear hk)
                        (try clear hi)
                        refine hK.out _ _ ⟨(blk_cell BK137.out 0).trans rfl, (blk_cell BK137.out 1).trans rfl, (blk_cell BK137.out 2).trans rfl, (blk_cell BK137.out 3).trans rfl, (blk_cell BK137.out 4).trans rfl, (blk_cell BK137.out 5).trans rfl, (blk_cell BK137.out 6).trans rfl, (blk_cell BK137.out 7).trans rfl, (blk_cell BK137.out 8).trans rfl, ((HB.out.cell (World.block_lt_of_cell? w _ hw138_0)).trans hw138_0)⟩ (fun hHeld => ?_)
                        clear hK K
                        refine norm_ (a' := ?_) ?_ ?_
                        rotate_left
                        · show Act.put _ (some 30) _ = _
                          simp only [Act.put, List.setIfInBounds_toArray, List.set_cons_zero, List.set_cons_succ, i64_w, i32_w]
                          rfl
                        refine pure_ (i := 6) (N := some 24) (v := ?_) (a' := ?_) #[true, true, true, true, true, true, true, false, false, false, false, false] rfl rfl (any_of HT_.out (by kernel_rfl)) (fun _ _ _ h => h) (Or.inl ⟨by rfl, ?_⟩) ?_ ?_
                        rotate_left
                        · intro w'
                          go_simp
                          with_reducible rfl
                        rotate_left
                        · simp only [Act.put, List.setIfInBounds_toArray, List.set_cons_zero, List.set_cons_succ, i64_w, i32_w]
                          rfl
                        refine pure_ (i := 7) (N := some 31) (v := ?_) (a' := ?_) #[true, true, true, true, true, true, true, true, false, false, false, false] rfl rfl (any_of HT_.out (by kernel_rfl)) (fun _ _ _ h => h) (Or.inl ⟨by rfl, ?_⟩) ?_ ?_
                        rotate_left
                        · intro w'
                          go_simp
                          with_reducible rfl
                        rotate_left
                        · simp only [Act.put, List.setIfInBounds_toArray, List.set_cons_zero, List.set_cons_succ, i64_w, i32_w]
                          rfl
                        refine pure_ (i := 8) (N := some 32) (v := ?_) (a' := ?_) #[true, true, true, true, true, true, true, true, true, false, false, false] rfl rfl (any_of HT_.out (by kernel_rfl)) (fun _ _ _ h => h) (Or.inl ⟨by rfl, ?_⟩) ?_ ?_
                        rotate_left
                        · intro w'
                          go_simp
                          with_reducible rfl
                        rotate_left
                        · simp only [Act.put, List.setIfInBounds_toArray, List.set_cons_zero, List.set_cons_succ, i64_w, i32_w]
                          rfl
                        refine one_ (i := 9) (N := some 8) #[true, true, true, true, true, true, true, true, true, true, false, false] rfl rfl (one_of HT_.out (by kernel_rfl)) (by decide) (fun K hK => ?_)
                        refine box_step ?hg (N := 8) ?hd (cs := #[.int .i64 0, .int .i64 0, .int .i64 0, .int .i64 0, .int .i64 0, .int .i64 0, .int .i64 0, .int .i64 0, .int .i64 0]) (t := 37) ?hr ?_; (case hd => rfl); (case hg => rfl); (case hr => first | (go_simp; done) | (go_simp; rfl))
                        intro gb149 hg w22 hbox hb
                        have n0_ := Aside0.mk (blk_below (g := gb137) (o := .cells #[.int .i64 x138000_1, .int .i64 x138001_1, .int .i64 x138002_1, .int .i64 x138003_1, .int .i64 x138004_1, .int .i64 x138005_1, .int .i64 x138006_1, .int .i64 x138007_1, .int .i64 x138008_1] 37 (0, 0)) (by (with_reducible repeat (first | refine blk_drewN ?_ _ | refine blk_drew ?_ | refine blk_alloc ?_ _)); exact BK137.out) hb)
                        have n1_ := Aside0.mk (below_step (by repeat (first | (with_reducible first | exact HB.out | apply below_alloc | apply pw_below_drewN | apply below_drew1 | refine below_set ?_ GE137.out) | exact HB.out)) hb)
                        have n2_ := Aside0.mk (hbox)
                        have n3_ := Aside0.mk ((by rw [hg]; exact (below_size (by repeat (first | (with_reducible first | exact HB.out | apply below_alloc | apply pw_below_drewN | apply below_drew1 | refine below_set ?_ GE137.out) | exact HB.out))) : w.heap.size ≤ gb149))
                        have n4_ := Aside0.mk ((by rw [hg]; exact (below_size (by repeat (first | (with_reducible first | exact HB.out | apply below_alloc | apply pw_below_drewN | apply below_drew1 | refine below_set ?_ GE137.out) | exact HB.out))) : w.heap.size ≤ gb149))
                        have n5_ := Aside0.mk ((by rw [hg]; exact Nat.ne_of_lt (blk_lt (g := gb137) (o := .cells #[.int .i64 x138000_1, .int .i64 x138001_1, .int .i64 x138002_1, .int .i64 x138003_1, .int .i64 x138004_1, .int .i64 x138005_1, .int .i64 x138006_1, .int .i64 x138007_1, .int .i64 x138008_1] 37 (0, 0)) (by (with_reducible repeat (first | refine blk_drewN ?_ _ | refine blk_drew ?_ | refine blk_alloc ?_ _)); exact BK137.out)) : gb137 ≠ gb149))
                        have n6_ := Aside0.mk ((by rw [hg]; exact Nat.ne_of_gt (blk_lt (g := gb137) (o := .cells #[.int .i64 x138000_1, .int .i64 x138001_1, .int .i64 x138002_1, .int .i64 x138003_1, .int .i64 x138004_1, .int .i64 x138005_1, .int .i64 x138006_1, .int .i64 x138007_1, .int .i64 x138008_1] 37 (0, 0)) (by (with_reducible repeat (first | refine blk_drewN ?_ _ | refine blk_drew ?_ | refine blk_alloc ?_ _)); exact BK137.out)) : gb149 ≠ gb137))
                        clear BK137
                        clear HB
                        have BK137 := n0_
                        have HB := n1_
                        have BK149 := n2_
                        have GW149 := n3_
                        have GE149 := n4_
                        have NB137_149 := n5_
                        have NB149_137 := n6_
                        clear n0_ n1_ n2_ n3_ n4_ n5_ n6_
                        clear hb hbox hg
                        refine hK.out _ _ ⟨(blk_cell BK137.out 0).trans rfl, (blk_cell BK137.out 1).trans rfl, (blk_cell BK137.out 2).trans rfl, (blk_cell BK137.out 3).trans rfl, (blk_cell BK137.out 4).trans rfl, (blk_cell BK137.out 5).trans rfl, (blk_cell BK137.out 6).trans rfl, (blk_cell BK137.out 7).trans rfl, (blk_cell BK137.out 8).trans rfl, ((HB.out.cell (World.block_lt_of_cell? w _ hw138_0)).trans hw138_0)⟩ (fun hHeld => ?_)
                        clear hK K
                        refine norm_ (a' := ?_) ?_ ?_
                        rotate_left
                        · show Act.put _ (some 8) _ = _
                          simp only [Act.put, List.setIfInBounds_toArray, List.set_cons_zero, List.set_cons_succ, i64_w, i32_w]
                          rfl
                        exact norm_ (by simp only [putAll, Act.put, List.setIfInBounds_toArray, List.set_cons_zero, List.set_cons_succ]) (hCont (gb149) _ ⟨hHeld, (by (with_reducible repeat (first | refine blk_drewN ?_ _ | refine blk_drew ?_ | refine blk_alloc ?_ _)); exact BK137.out), (by (with_reducible repeat (first | refine blk_drewN ?_ _ | refine blk_drew ?_ | refine blk_alloc ?_ _)); exact BK149.out), GW149.out, GE149.out, NB137_149.out, NB149_137.out, (by repeat (first | (with_reducible first | exact HB.out | apply below_alloc | apply pw_below_drewN | apply below_drew1 | refine below_set ?_ GE137.out | refine below_set ?_ GE149.out) | exact HB.out))⟩)
                      · skip
                        refine box_step ?hg (N := 8) ?hd (cs := #[.int .i64 0, .int .i64 0, .int .i64 0, .int .i64 0, .int .i64 0, .int .i64 0, .int .i64 0, .int .i64 0, .int .i64 0]) (t := 37) ?hr ?_; (case hd => rfl); (case hg => rfl); (case hr => first | (go_simp; done) | (go_simp; rfl))
                        intro gb149 hg w21 hbox hb
                        have n0_ := Aside0.mk (blk_below (g := gb137) (o := .cells #[.int .i64 x138000_1, .int .i64 x138001_1, .int .i64 x138002_1, .int .i64 x138003_1, .int .i64 x138004_1, .int .i64 x138005_1, .int .i64 x138006_1, .int .i64 x138007_1, .int .i64 x138008_1] 37 (0, 0)) (by (with_reducible repeat (first | refine blk_drewN ?_ _ | refine blk_drew ?_ | refine blk_alloc ?_ _)); exact BK137.out) hb)
                        have n1_ := Aside0.mk (below_step (by repeat (first | (with_reducible first | exact HB.out | apply below_alloc | apply pw_below_drewN | apply below_drew1 | refine below_set ?_ GE137.out) | exact HB.out)) hb)
                        have n2_ := Aside0.mk (hbox)
                        have n3_ := Aside0.mk ((by rw [hg]; exact (below_size (by repeat (first | (with_reducible first | exact HB.out | apply below_alloc | apply pw_below_drewN | apply below_drew1 | refine below_set ?_ GE137.out) | exact HB.out))) : w.heap.size ≤ gb149))
                        have n4_ := Aside0.mk ((by rw [hg]; exact (below_size (by repeat (first | (with_reducible first | exact HB.out | apply below_alloc | apply pw_below_drewN | apply below_drew1 | refine below_set ?_ GE137.out) | exact HB.out))) : w.heap.size ≤ gb149))
                        have n5_ := Aside0.mk ((by rw [hg]; exact Nat.ne_of_lt (blk_lt (g := gb137) (o := .cells #[.int .i64 x138000_1, .int .i64 x138001_1, .int .i64 x138002_1, .int .i64 x138003_1, .int .i64 x138004_1, .int .i64 x138005_1, .int .i64 x138006_1, .int .i64 x138007_1, .int .i64 x138008_1] 37 (0, 0)) (by (with_reducible repeat (first | refine blk_drewN ?_ _ | refine blk_drew ?_ | refine blk_alloc ?_ _)); exact BK137.out)) : gb137 ≠ gb149))
                        have n6_ := Aside0.mk ((by rw [hg]; exact Nat.ne_of_gt (blk_lt (g := gb137) (o := .cells #[.int .i64 x138000_1, .int .i64 x138001_1, .int .i64 x138002_1, .int .i64 x138003_1, .int .i64 x138004_1, .int .i64 x138005_1, .int .i64 x138006_1, .int .i64 x138007_1, .int .i64 x138008_1] 37 (0, 0)) (by (with_reducible repeat (first | refine blk_drewN ?_ _ | refine blk_drew ?_ | refine blk_alloc ?_ _)); exact BK137.out)) : gb149 ≠ gb137))
                        clear BK137
                        clear HB
                        have BK137 := n0_
                        have HB := n1_
                        have BK149 := n2_
                        have GW149 := n3_
                        have GE149 := n4_
                        have NB137_149 := n5_
                        have NB149_137 := n6_
                        clear n0_ n1_ n2_ n3_ n4_ n5_ n6_
                        clear hb hbox hg
                        refine hK.out _ _ ⟨(blk_cell BK137.out 0).trans rfl, (blk_cell BK137.out 1).trans rfl, (blk_cell BK137.out 2).trans rfl, (blk_cell BK137.out 3).trans rfl, (blk_cell BK137.out 4).trans rfl, (blk_cell BK137.out 5).trans rfl, (blk_cell BK137.out 6).trans rfl, (blk_cell BK137.out 7).trans rfl, (blk_cell BK137.out 8).trans rfl, ((HB.out.cell (World.block_lt_of_cell? w _ hw138_0)).trans hw138_0)⟩ (fun hHeld => ?_)
                        clear hK K
                        refine norm_ (a' := ?_) ?_ ?_
                        rotate_left
                        · show Act.put _ (some 8) _ = _
                          simp only [Act.put, List.setIfInBounds_toArray, List.set_cons_zero, List.set_cons_succ, i64_w, i32_w]
                          rfl
                        refine one_ (i := 5) (N := some 30) #[true, true, true, true, true, true, false, false, false, true, false, false] rfl rfl (one_of HT_.out (by kernel_rfl)) (by decide) (fun K hK => ?_)
                        refine goes_ Try.func16 (by kernel_rfl) rfl #[.agg #[.int .i64 x138000_1, .int .i64 x138001_1, .int .i64 x138002_1, .int .i64 x138003_1, .int .i64 x138004_1, .int .i64 x138005_1, .int .i64 x138006_1, .int .i64 x138007_1, .int .i64 x138008_1], .int .i64 (rd l1 x7_1)] (by rfl) rfl rfl (by (try simp only [List.map_toArray, List.map_cons, List.map_nil]); first | done | rfl | (simp only [List.length_drop, List.length_take]; rfl)) ?_
                        with_reducible refine (feed_Known_Tell.calls x138000_1 x138001_1 x138002_1 x138003_1 x138004_1 x138005_1 x138006_1 x138007_1 x138008_1 (rd l1 x7_1) t139 t140 t141 t142 t143 t144 t145 t146 t147 t148 _ A14.out).mono ?_
                        rintro e w22 ⟨rfl, hb⟩
                        refine ⟨_, rfl, ?_⟩
                        have n0_ := Aside0.mk (blk_below (g := gb137) (o := .cells #[.int .i64 x138000_1, .int .i64 x138001_1, .int .i64 x138002_1, .int .i64 x138003_1, .int .i64 x138004_1, .int .i64 x138005_1, .int .i64 x138006_1, .int .i64 x138007_1, .int .i64 x138008_1] 37 (0, 0)) (by (with_reducible repeat (first | refine blk_drewN ?_ _ | refine blk_drew ?_ | refine blk_alloc ?_ _)); exact BK137.out) hb)
                        have n1_ := Aside0.mk (blk_below (g := gb149) (o := .cells #[.int .i64 0, .int .i64 0, .int .i64 0, .int .i64 0, .int .i64 0, .int .i64 0, .int .i64 0, .int .i64 0, .int .i64 0] 37 (0, 0)) (by (with_reducible repeat (first | refine blk_drewN ?_ _ | refine blk_drew ?_ | refine blk_alloc ?_ _)); exact BK149.out) hb)
                        have n2_ := Aside0.mk (below_step (by repeat (first | (with_reducible first | exact HB.out | apply below_alloc | apply pw_below_drewN | apply below_drew1 | refine below_set ?_ GE137.out | refine below_set ?_ GE149.out) | exact HB.out)) hb)
                        clear BK137
                        clear BK149
                        clear HB
                        have BK137 := n0_
                        have BK149 := n1_
                        have HB := n2_
                        clear n0_ n1_ n2_
                        (try clear hb)
                        (try clear hb2)
                        (try clear hk)
                        (try clear hi)
                        refine hK.out _ _ ⟨(blk_cell BK137.out 0).trans rfl, (blk_cell BK137.out 1).trans rfl, (blk_cell BK137.out 2).trans rfl, (blk_cell BK137.out 3).trans rfl, (blk_cell BK137.out 4).trans rfl, (blk_cell BK137.out 5).trans rfl, (blk_cell BK137.out 6).trans rfl, (blk_cell BK137.out 7).trans rfl, (blk_cell BK137.out 8).trans rfl, ((HB.out.cell (World.block_lt_of_cell? w _ hw138_0)).trans hw138_0)⟩ (fun hHeld => ?_)
                        clear hK K
                        refine norm_ (a' := ?_) ?_ ?_
                        rotate_left
                        · show Act.put _ (some 30) _ = _
                          simp only [Act.put, List.setIfInBounds_toArray, List.set_cons_zero, List.set_cons_succ, i64_w, i32_w]
                          rfl
                        refine pure_ (i := 6) (N := some 24) (v := ?_) (a' := ?_) #[true, true, true, true, true, true, true, false, false, true, false, false] rfl rfl (any_of HT_.out (by kernel_rfl)) (fun _ _ _ h => h) (Or.inl ⟨by rfl, ?_⟩) ?_ ?_
                        rotate_left
                        · intro w'
                          go_simp
                          with_reducible rfl
                        rotate_left
                        · simp only [Act.put, List.setIfInBounds_toArray, List.set_cons_zero, List.set_cons_succ, i64_w, i32_w]
                          rfl
                        refine pure_ (i := 7) (N := some 31) (v := ?_) (a' := ?_) #[true, true, true, true, true, true, true, true, false, true, false, false] rfl rfl (any_of HT_.out (by kernel_rfl)) (fun _ _ _ h => h) (Or.inl ⟨by rfl, ?_⟩) ?_ ?_
                        rotate_left
                        · intro w'
                          go_simp
                          with_reducible rfl
                        rotate_left
                        · simp only [Act.put, List.setIfInBounds_toArray, List.set_cons_zero, List.set_cons_succ, i64_w, i32_w]
                          rfl
                        refine pure_ (i := 8) (N := some 32) (v := ?_) (a' := ?_) #[true, true, true, true, true, true, true, true, true, true, false, false] rfl rfl (any_of HT_.out (by kernel_rfl)) (fun _ _ _ h => h) (Or.inl ⟨by rfl, ?_⟩) ?_ ?_
                        rotate_left
                        · intro w'
                          go_simp
                          with_reducible rfl
                        rotate_left
                        · simp only [Act.put, List.setIfInBounds_toArray, List.set_cons_zero, List.set_cons_succ, i64_w, i32_w]
                          rfl
                        exact norm_ (by simp only [putAll, Act.put, List.setIfInBounds_toArray, List.set_cons_zero, List.set_cons_succ]) (hCont (gb149) _ ⟨hHeld, (by (with_reducible repeat (first | refine blk_drewN ?_ _ | refine blk_drew ?_ | refine blk_alloc ?_ _)); exact BK137.out), (by (with_reducible repeat (first | refine blk_drewN ?_ _ | refine blk_drew ?_ | refine blk_alloc ?_ _)); exact BK149.out), GW149.out, GE149.out, NB137_149.out, NB149_137.out, (by repeat (first | (with_reducible first | exact HB.out | apply below_alloc | apply pw_below_drewN | apply below_drew1 | refine below_set ?_ GE137.out | refine below_set ?_ GE149.out) | exact HB.out))⟩)
                    rintro gb149 w23 ⟨hS_, h0_, h1_, h2_, h3_, h4_, h5_, h6_⟩
                    have n0_ : Aside0 (w23.heap[gb137]? = some (.cells #[.int .i64 x138000_1, .int .i64 x138001_1, .int .i64 x138002_1, .int .i64 x138003_1, .int .i64 x138004_1, .int .i64 x138005_1, .int .i64 x138006_1, .int .i64 x138007_1, .int .i64 x138008_1] 37 (0, 0))) := ⟨h0_⟩
                    have n1_ : Aside0 (w23.heap[gb149]? = some (.cells #[.int .i64 0, .int .i64 0, .int .i64 0, .int .i64 0, .int .i64 0, .int .i64 0, .int .i64 0, .int .i64 0, .int .i64 0] 37 (0, 0))) := ⟨h1_⟩
                    have n2_ : Aside0 (w.heap.size ≤ gb149) := ⟨h2_⟩
                    have n3_ : Aside0 (w.heap.size ≤ gb149) := ⟨h3_⟩
                    have n4_ : Aside0 (gb137 ≠ gb149) := ⟨h4_⟩
                    have n5_ : Aside0 (gb149 ≠ gb137) := ⟨h5_⟩
                    have n6_ : Aside0 (Below w.heap.size w w23) := ⟨h6_⟩
                    clear BK137
                    clear HB
                    clear h0_ h1_ h2_ h3_ h4_ h5_ h6_
                    have BK137 := n0_
                    have BK149 := n1_
                    have GW149 := n2_
                    have GE149 := n3_
                    have NB137_149 := n4_
                    have NB149_137 := n5_
                    have HB := n6_
                    clear n0_ n1_ n2_ n3_ n4_ n5_ n6_
                    have hHeld : w23.cell? ⟨gb137, 0, none⟩ = some (.int .i64 x138000_1) ∧ w23.cell? ⟨gb137, 1, none⟩ = some (.int .i64 x138001_1) ∧ w23.cell? ⟨gb137, 2, none⟩ = some (.int .i64 x138002_1) ∧ w23.cell? ⟨gb137, 3, none⟩ = some (.int .i64 x138003_1) ∧ w23.cell? ⟨gb137, 4, none⟩ = some (.int .i64 x138004_1) ∧ w23.cell? ⟨gb137, 5, none⟩ = some (.int .i64 x138005_1) ∧ w23.cell? ⟨gb137, 6, none⟩ = some (.int .i64 x138006_1) ∧ w23.cell? ⟨gb137, 7, none⟩ = some (.int .i64 x138007_1) ∧ w23.cell? ⟨gb137, 8, none⟩ = some (.int .i64 x138008_1) ∧ w23.cell? (ad138.add (x7_1).toNat) = some (.int .i64 (rd l1 x7_1)) := hS_
                    refine norm_ (a' := ?_) ?_ ?_
                    rotate_left
                    · simp only [putAll, Act.put, List.setIfInBounds_toArray, List.set_cons_zero, List.set_cons_succ]
                      rfl
                    refine one_ (i := 10) (N := none) #[true, true, true, true, true, true, true, true, true, true, true, false] rfl rfl (one_of HT_.out (by kernel_rfl)) (by decide) (fun K hK => ?_)
                    have hs24 : w23.cell? ⟨gb149, 0, none⟩ = some (.int .i64 0) := (blk_cell BK149.out 0).trans rfl
                    have hfs24 := blk_frozen BK149.out 0
                    have hns24_0 := NB137_149.out
                    have hms24_0 := NB149_137.out
                    have hs25 : w23.cell? ⟨gb149, 1, none⟩ = some (.int .i64 0) := (blk_cell BK149.out 1).trans rfl
                    have hfs25 := blk_frozen BK149.out 1
                    have hns25_0 := NB137_149.out
                    have hms25_0 := NB149_137.out
                    have hs26 : w23.cell? ⟨gb149, 2, none⟩ = some (.int .i64 0) := (blk_cell BK149.out 2).trans rfl
                    have hfs26 := blk_frozen BK149.out 2
                    have hns26_0 := NB137_149.out
                    have hms26_0 := NB149_137.out
                    have hs27 : w23.cell? ⟨gb149, 3, none⟩ = some (.int .i64 0) := (blk_cell BK149.out 3).trans rfl
                    have hfs27 := blk_frozen BK149.out 3
                    have hns27_0 := NB137_149.out
                    have hms27_0 := NB149_137.out
                    have hs28 : w23.cell? ⟨gb149, 4, none⟩ = some (.int .i64 0) := (blk_cell BK149.out 4).trans rfl
                    have hfs28 := blk_frozen BK149.out 4
                    have hns28_0 := NB137_149.out
                    have hms28_0 := NB149_137.out
                    have hs29 : w23.cell? ⟨gb149, 5, none⟩ = some (.int .i64 0) := (blk_cell BK149.out 5).trans rfl
                    have hfs29 := blk_frozen BK149.out 5
                    have hns29_0 := NB137_149.out
                    have hms29_0 := NB149_137.out
                    have hs30 : w23.cell? ⟨gb149, 6, none⟩ = some (.int .i64 0) := (blk_cell BK149.out 6).trans rfl
                    have hfs30 := blk_frozen BK149.out 6
                    have hns30_0 := NB137_149.out
                    have hms30_0 := NB149_137.out
                    have hs31 : w23.cell? ⟨gb149, 7, none⟩ = some (.int .i64 0) := (blk_cell BK149.out 7).trans rfl
                    have hfs31 := blk_frozen BK149.out 7
                    have hns31_0 := NB137_149.out
                    have hms31_0 := NB149_137.out
                    have hs32 : w23.cell? ⟨gb149, 8, none⟩ = some (.int .i64 0) := (blk_cell BK149.out 8).trans rfl
                    have hfs32 := blk_frozen BK149.out 8
                    have hns32_0 := NB137_149.out
                    have hms32_0 := NB149_137.out
                    refine skip_ (w1 := ?_) (by rfl) rfl ?_ ?_
                    rotate_left
                    · go_simp
                      rfl
                    refine hK.out _ _ ⟨((cell_far (p := ⟨gb149, _, none⟩) NB137_149.out _).trans (((cell_far (p := ⟨gb149, _, none⟩) NB137_149.out _).trans (((cell_far (p := ⟨gb149, _, none⟩) NB137_149.out _).trans (((cell_far (p := ⟨gb149, _, none⟩) NB137_149.out _).trans (((cell_far (p := ⟨gb149, _, none⟩) NB137_149.out _).trans (((cell_far (p := ⟨gb149, _, none⟩) NB137_149.out _).trans (((cell_far (p := ⟨gb149, _, none⟩) NB137_149.out _).trans (((cell_far (p := ⟨gb149, _, none⟩) NB137_149.out _).trans (((cell_far (p := ⟨gb149, _, none⟩) NB137_149.out _).trans (hHeld.1)))))))))))))))))), ((cell_far (p := ⟨gb149, _, none⟩) NB137_149.out _).trans (((cell_far (p := ⟨gb149, _, none⟩) NB137_149.out _).trans (((cell_far (p := ⟨gb149, _, none⟩) NB137_149.out _).trans (((cell_far (p := ⟨gb149, _, none⟩) NB137_149.out _).trans (((cell_far (p := ⟨gb149, _, none⟩) NB137_149.out _).trans (((cell_far (p := ⟨gb149, _, none⟩) NB137_149.out _).trans (((cell_far (p := ⟨gb149, _, none⟩) NB137_149.out _).trans (((cell_far (p := ⟨gb149, _, none⟩) NB137_149.out _).trans (((cell_far (p := ⟨gb149, _, none⟩) NB137_149.out _).trans (hHeld.2.1)))))))))))))))))), ((cell_far (p := ⟨gb149, _, none⟩) NB137_149.out _).trans (((cell_far (p := ⟨gb149, _, none⟩) NB137_149.out _).trans (((cell_far (p := ⟨gb149, _, none⟩) NB137_149.out _).trans (((cell_far (p := ⟨gb149, _, none⟩) NB137_149.out _).trans (((cell_far (p := ⟨gb149, _, none⟩) NB137_149.out _).trans (((cell_far (p := ⟨gb149, _, none⟩) NB137_149.out _).trans (((cell_far (p := ⟨gb149, _, none⟩) NB137_149.out _).trans (((cell_far (p := ⟨gb149, _, none⟩) NB137_149.out _).trans (((cell_far (p := ⟨gb149, _, none⟩) NB137_149.out _).trans (hHeld.2.2.1)))))))))))))))))), ((cell_far (p := ⟨gb149, _, none⟩) NB137_149.out _).trans (((cell_far (p := ⟨gb149, _, none⟩) NB137_149.out _).trans (((cell_far (p := ⟨gb149, _, none⟩) NB137_149.out _).trans (((cell_far (p := ⟨gb149, _, none⟩) NB137_149.out _).trans (((cell_far (p := ⟨gb149, _, none⟩) NB137_149.out _).trans (((cell_far (p := ⟨gb149, _, none⟩) NB137_149.out _).trans (((cell_far (p := ⟨gb149, _, none⟩) NB137_149.out _).trans (((cell_far (p := ⟨gb149, _, none⟩) NB137_149.out _).trans (((cell_far (p := ⟨gb149, _, none⟩) NB137_149.out _).trans (hHeld.2.2.2.1)))))))))))))))))), ((cell_far (p := ⟨gb149, _, none⟩) NB137_149.out _).trans (((cell_far (p := ⟨gb149, _, none⟩) NB137_149.out _).trans (((cell_far (p := ⟨gb149, _, none⟩) NB137_149.out _).trans (((cell_far (p := ⟨gb149, _, none⟩) NB137_149.out _).trans (((cell_far (p := ⟨gb149, _, none⟩) NB137_149.out _).trans (((cell_far (p := ⟨gb149, _, none⟩) NB137_149.out _).trans (((cell_far (p := ⟨gb149, _, none⟩) NB137_149.out _).trans (((cell_far (p := ⟨gb149, _, none⟩) NB137_149.out _).trans (((cell_far (p := ⟨gb149, _, none⟩) NB137_149.out _).trans (hHeld.2.2.2.2.1)))))))))))))))))), ((cell_far (p := ⟨gb149, _, none⟩) NB137_149.out _).trans (((cell_far (p := ⟨gb149, _, none⟩) NB137_149.out _).trans (((cell_far (p := ⟨gb149, _, none⟩) NB137_149.out _).trans (((cell_far (p := ⟨gb149, _, none⟩) NB137_149.out _).trans (((cell_far (p := ⟨gb149, _, none⟩) NB137_149.out _).trans (((cell_far (p := ⟨gb149, _, none⟩) NB137_149.out _).trans (((cell_far (p := ⟨gb149, _, none⟩) NB137_149.out _).trans (((cell_far (p := ⟨gb149, _, none⟩) NB137_149.out _).trans (((cell_far (p := ⟨gb149, _, none⟩) NB137_149.out _).trans (hHeld.2.2.2.2.2.1)))))))))))))))))), ((cell_far (p := ⟨gb149, _, none⟩) NB137_149.out _).trans (((cell_far (p := ⟨gb149, _, none⟩) NB137_149.out _).trans (((cell_far (p := ⟨gb149, _, none⟩) NB137_149.out _).trans (((cell_far (p := ⟨gb149, _, none⟩) NB137_149.out _).trans (((cell_far (p := ⟨gb149, _, none⟩) NB137_149.out _).trans (((cell_far (p := ⟨gb149, _, none⟩) NB137_149.out _).trans (((cell_far (p := ⟨gb149, _, none⟩) NB137_149.out _).trans (((cell_far (p := ⟨gb149, _, none⟩) NB137_149.out _).trans (((cell_far (p := ⟨gb149, _, none⟩) NB137_149.out _).trans (hHeld.2.2.2.2.2.2.1)))))))))))))))))), ((cell_far (p := ⟨gb149, _, none⟩) NB137_149.out _).trans (((cell_far (p := ⟨gb149, _, none⟩) NB137_149.out _).trans (((cell_far (p := ⟨gb149, _, none⟩) NB137_149.out _).trans (((cell_far (p := ⟨gb149, _, none⟩) NB137_149.out _).trans (((cell_far (p := ⟨gb149, _, none⟩) NB137_149.out _).trans (((cell_far (p := ⟨gb149, _, none⟩) NB137_149.out _).trans (((cell_far (p := ⟨gb149, _, none⟩) NB137_149.out _).trans (((cell_far (p := ⟨gb149, _, none⟩) NB137_149.out _).trans (((cell_far (p := ⟨gb149, _, none⟩) NB137_149.out _).trans (hHeld.2.2.2.2.2.2.2.1)))))))))))))))))), ((cell_far (p := ⟨gb149, _, none⟩) NB137_149.out _).trans (((cell_far (p := ⟨gb149, _, none⟩) NB137_149.out _).trans (((cell_far (p := ⟨gb149, _, none⟩) NB137_149.out _).trans (((cell_far (p := ⟨gb149, _, none⟩) NB137_149.out _).trans (((cell_far (p := ⟨gb149, _, none⟩) NB137_149.out _).trans (((cell_far (p := ⟨gb149, _, none⟩) NB137_149.out _).trans (((cell_far (p := ⟨gb149, _, none⟩) NB137_149.out _).trans (((cell_far (p := ⟨gb149, _, none⟩) NB137_149.out _).trans (((cell_far (p := ⟨gb149, _, none⟩) NB137_149.out _).trans (hHeld.2.2.2.2.2.2.2.2.1)))))))))))))))))), ((cell_far (p := ⟨gb149, _, none⟩) (by first | exact Nat.ne_of_lt (Nat.lt_of_lt_of_le (by have := World.block_lt_of_cell? _ _ hw138_0; first | rwa [add_block] at this | exact this) GW149.out) | (rw [add_block]; exact Nat.ne_of_lt (Nat.lt_of_lt_of_le (by have := World.block_lt_of_cell? _ _ hw138_0; first | rwa [add_block] at this | exact this) GW149.out)) | (show (Addr.add _ _).block ≠ _; rw [add_block]; exact Nat.ne_of_lt (Nat.lt_of_lt_of_le (by have := World.block_lt_of_cell? _ _ hw138_0; first | rwa [add_block] at this | exact this) GW149.out)) | (dsimp only; exact Nat.ne_of_lt (Nat.lt_of_lt_of_le (by have := World.block_lt_of_cell? _ _ hw138_0; first | rwa [add_block] at this | exact this) GW149.out))) _).trans (((cell_far (p := ⟨gb149, _, none⟩) (by first | exact Nat.ne_of_lt (Nat.lt_of_lt_of_le (by have := World.block_lt_of_cell? _ _ hw138_0; first | rwa [add_block] at this | exact this) GW149.out) | (rw [add_block]; exact Nat.ne_of_lt (Nat.lt_of_lt_of_le (by have := World.block_lt_of_cell? _ _ hw138_0; first | rwa [add_block] at this | exact this) GW149.out)) | (show (Addr.add _ _).block ≠ _; rw [add_block]; exact Nat.ne_of_lt (Nat.lt_of_lt_of_le (by have := World.block_lt_of_cell? _ _ hw138_0; first | rwa [add_block] at this | exact this) GW149.out)) | (dsimp only; exact Nat.ne_of_lt (Nat.lt_of_lt_of_le (by have := World.block_lt_of_cell? _ _ hw138_0; first | rwa [add_block] at this | exact this) GW149.out))) _).trans (((cell_far (p := ⟨gb149, _, none⟩) (by first | exact Nat.ne_of_lt (Nat.lt_of_lt_of_le (by have := World.block_lt_of_cell? _ _ hw138_0; first | rwa [add_block] at this | exact this) GW149.out) | (rw [add_block]; exact Nat.ne_of_lt (Nat.lt_of_lt_of_le (by have := World.block_lt_of_cell? _ _ hw138_0; first | rwa [add_block] at this | exact this) GW149.out)) | (show (Addr.add _ _).block ≠ _; rw [add_block]; exact Nat.ne_of_lt (Nat.lt_of_lt_of_le (by have := World.block_lt_of_cell? _ _ hw138_0; first | rwa [add_block] at this | exact this) GW149.out)) | (dsimp only; exact Nat.ne_of_lt (Nat.lt_of_lt_of_le (by have := World.block_lt_of_cell? _ _ hw138_0; first | rwa [add_block] at this | exact this) GW149.out))) _).trans (((cell_far (p := ⟨gb149, _, none⟩) (by first | exact Nat.ne_of_lt (Nat.lt_of_lt_of_le (by have := World.block_lt_of_cell? _ _ hw138_0; first | rwa [add_block] at this | exact this) GW149.out) | (rw [add_block]; exact Nat.ne_of_lt (Nat.lt_of_lt_of_le (by have := World.block_lt_of_cell? _ _ hw138_0; first | rwa [add_block] at this | exact this) GW149.out)) | (show (Addr.add _ _).block ≠ _; rw [add_block]; exact Nat.ne_of_lt (Nat.lt_of_lt_of_le (by have := World.block_lt_of_cell? _ _ hw138_0; first | rwa [add_block] at this | exact this) GW149.out)) | (dsimp only; exact Nat.ne_of_lt (Nat.lt_of_lt_of_le (by have := World.block_lt_of_cell? _ _ hw138_0; first | rwa [add_block] at this | exact this) GW149.out))) _).trans (((cell_far (p := ⟨gb149, _, none⟩) (by first | exact Nat.ne_of_lt (Nat.lt_of_lt_of_le (by have := World.block_lt_of_cell? _ _ hw138_0; first | rwa [add_block] at this | exact this) GW149.out) | (rw [add_block]; exact Nat.ne_of_lt (Nat.lt_of_lt_of_le (by have := World.block_lt_of_cell? _ _ hw138_0; first | rwa [add_block] at this | exact this) GW149.out)) | (show (Addr.add _ _).block ≠ _; rw [add_block]; exact Nat.ne_of_lt (Nat.lt_of_lt_of_le (by have := World.block_lt_of_cell? _ _ hw138_0; first | rwa [add_block] at this | exact this) GW149.out)) | (dsimp only; exact Nat.ne_of_lt (Nat.lt_of_lt_of_le (by have := World.block_lt_of_cell? _ _ hw138_0; first | rwa [add_block] at this | exact this) GW149.out))) _).trans (((cell_far (p := ⟨gb149, _, none⟩) (by first | exact Nat.ne_of_lt (Nat.lt_of_lt_of_le (by have := World.block_lt_of_cell? _ _ hw138_0; first | rwa [add_block] at this | exact this) GW149.out) | (rw [add_block]; exact Nat.ne_of_lt (Nat.lt_of_lt_of_le (by have := World.block_lt_of_cell? _ _ hw138_0; first | rwa [add_block] at this | exact this) GW149.out)) | (show (Addr.add _ _).block ≠ _; rw [add_block]; exact Nat.ne_of_lt (Nat.lt_of_lt_of_le (by have := World.block_lt_of_cell? _ _ hw138_0; first | rwa [add_block] at this | exact this) GW149.out)) | (dsimp only; exact Nat.ne_of_lt (Nat.lt_of_lt_of_le (by have := World.block_lt_of_cell? _ _ hw138_0; first | rwa [add_block] at this | exact this) GW149.out))) _).trans (((cell_far (p := ⟨gb149, _, none⟩) (by first | exact Nat.ne_of_lt (Nat.lt_of_lt_of_le (by have := World.block_lt_of_cell? _ _ hw138_0; first | rwa [add_block] at this | exact this) GW149.out) | (rw [add_block]; exact Nat.ne_of_lt (Nat.lt_of_lt_of_le (by have := World.block_lt_of_cell? _ _ hw138_0; first | rwa [add_block] at this | exact this) GW149.out)) | (show (Addr.add _ _).block ≠ _; rw [add_block]; exact Nat.ne_of_lt (Nat.lt_of_lt_of_le (by have := World.block_lt_of_cell? _ _ hw138_0; first | rwa [add_block] at this | exact this) GW149.out)) | (dsimp only; exact Nat.ne_of_lt (Nat.lt_of_lt_of_le (by have := World.block_lt_of_cell? _ _ hw138_0; first | rwa [add_block] at this | exact this) GW149.out))) _).trans (((cell_far (p := ⟨gb149, _, none⟩) (by first | exact Nat.ne_of_lt (Nat.lt_of_lt_of_le (by have := World.block_lt_of_cell? _ _ hw138_0; first | rwa [add_block] at this | exact this) GW149.out) | (rw [add_block]; exact Nat.ne_of_lt (Nat.lt_of_lt_of_le (by have := World.block_lt_of_cell? _ _ hw138_0; first | rwa [add_block] at this | exact this) GW149.out)) | (show (Addr.add _ _).block ≠ _; rw [add_block]; exact Nat.ne_of_lt (Nat.lt_of_lt_of_le (by have := World.block_lt_of_cell? _ _ hw138_0; first | rwa [add_block] at this | exact this) GW149.out)) | (dsimp only; exact Nat.ne_of_lt (Nat.lt_of_lt_of_le (by have := World.block_lt_of_cell? _ _ hw138_0; first | rwa [add_block] at this | exact this) GW149.out))) _).trans (((cell_far (p := ⟨gb149, _, none⟩) (by first | exact Nat.ne_of_lt (Nat.lt_of_lt_of_le (by have := World.block_lt_of_cell? _ _ hw138_0; first | rwa [add_block] at this | exact this) GW149.out) | (rw [add_block]; exact Nat.ne_of_lt (Nat.lt_of_lt_of_le (by have := World.block_lt_of_cell? _ _ hw138_0; first | rwa [add_block] at this | exact this) GW149.out)) | (show (Addr.add _ _).block ≠ _; rw [add_block]; exact Nat.ne_of_lt (Nat.lt_of_lt_of_le (by have := World.block_lt_of_cell? _ _ hw138_0; first | rwa [add_block] at this | exact this) GW149.out)) | (dsimp only; exact Nat.ne_of_lt (Nat.lt_of_lt_of_le (by have := World.block_lt_of_cell? _ _ hw138_0; first | rwa [add_block] at this | exact this) GW149.out))) _).trans (hHeld.2.2.2.2.2.2.2.2.2))))))))))))))))))⟩ (fun hHeld => ?_)
                    clear hK K
                    refine pure_ (i := 11) (N := some 9) (v := ?_) (a' := ?_) #[true, true, true, true, true, true, true, true, true, true, true, true] rfl rfl (any_of HT_.out (by kernel_rfl)) (fun _ _ _ h => h) (Or.inl ⟨by rfl, ?_⟩) ?_ ?_
                    rotate_left
                    · intro w'
                      go_simp
                      with_reducible rfl
                    rotate_left
                    · simp only [Act.put, List.setIfInBounds_toArray, List.set_cons_zero, List.set_cons_succ, i64_w, i32_w]
                      rfl
                    refine done_ (done_of HT_.out (by kernel_rfl)) ?_
                    have hnb33 := NB149_137.out
                    have hnc33 := NB137_149.out
                    have hcz34_0 : w23.cell? ⟨gb149, 0, none⟩ = some (.int .i64 0) := (blk_cell BK149.out 0).trans rfl
                    have hcz34_1 : w23.cell? ⟨gb149, 1, none⟩ = some (.int .i64 0) := (blk_cell BK149.out 1).trans rfl
                    have hcz34_2 : w23.cell? ⟨gb149, 2, none⟩ = some (.int .i64 0) := (blk_cell BK149.out 2).trans rfl
                    have hcz34_3 : w23.cell? ⟨gb149, 3, none⟩ = some (.int .i64 0) := (blk_cell BK149.out 3).trans rfl
                    have hcz34_4 : w23.cell? ⟨gb149, 4, none⟩ = some (.int .i64 0) := (blk_cell BK149.out 4).trans rfl
                    have hcz34_5 : w23.cell? ⟨gb149, 5, none⟩ = some (.int .i64 0) := (blk_cell BK149.out 5).trans rfl
                    have hcz34_6 : w23.cell? ⟨gb149, 6, none⟩ = some (.int .i64 0) := (blk_cell BK149.out 6).trans rfl
                    have hcz34_7 : w23.cell? ⟨gb149, 7, none⟩ = some (.int .i64 0) := (blk_cell BK149.out 7).trans rfl
                    have hcz34_8 : w23.cell? ⟨gb149, 8, none⟩ = some (.int .i64 0) := (blk_cell BK149.out 8).trans rfl
                    have hfz34_0 := blk_frozen BK149.out 0
                    have hfz34_1 := blk_frozen BK149.out 1
                    have hfz34_2 := blk_frozen BK149.out 2
                    have hfz34_3 := blk_frozen BK149.out 3
                    have hfz34_4 := blk_frozen BK149.out 4
                    have hfz34_5 := blk_frozen BK149.out 5
                    have hfz34_6 := blk_frozen BK149.out 6
                    have hfz34_7 := blk_frozen BK149.out 7
                    have hfz34_8 := blk_frozen BK149.out 8
                    have hcz35_0 : w23.cell? ⟨gb137, 0, none⟩ = some (.int .i64 x138000_1) := (blk_cell BK137.out 0).trans rfl
                    have hcz35_1 : w23.cell? ⟨gb137, 1, none⟩ = some (.int .i64 x138001_1) := (blk_cell BK137.out 1).trans rfl
                    have hcz35_2 : w23.cell? ⟨gb137, 2, none⟩ = some (.int .i64 x138002_1) := (blk_cell BK137.out 2).trans rfl
                    have hcz35_3 : w23.cell? ⟨gb137, 3, none⟩ = some (.int .i64 x138003_1) := (blk_cell BK137.out 3).trans rfl
                    have hcz35_4 : w23.cell? ⟨gb137, 4, none⟩ = some (.int .i64 x138004_1) := (blk_cell BK137.out 4).trans rfl
                    have hcz35_5 : w23.cell? ⟨gb137, 5, none⟩ = some (.int .i64 x138005_1) := (blk_cell BK137.out 5).trans rfl
                    have hcz35_6 : w23.cell? ⟨gb137, 6, none⟩ = some (.int .i64 x138006_1) := (blk_cell BK137.out 6).trans rfl
                    have hcz35_7 : w23.cell? ⟨gb137, 7, none⟩ = some (.int .i64 x138007_1) := (blk_cell BK137.out 7).trans rfl
                    have hcz35_8 : w23.cell? ⟨gb137, 8, none⟩ = some (.int .i64 x138008_1) := (blk_cell BK137.out 8).trans rfl
                    have hfz35_0 := blk_frozen BK137.out 0
                    have hfz35_1 := blk_frozen BK137.out 1
                    have hfz35_2 := blk_frozen BK137.out 2
                    have hfz35_3 := blk_frozen BK137.out 3
                    have hfz35_4 := blk_frozen BK137.out 4
                    have hfz35_5 := blk_frozen BK137.out 5
                    have hfz35_6 := blk_frozen BK137.out 6
                    have hfz35_7 := blk_frozen BK137.out 7
                    have hfz35_8 := blk_frozen BK137.out 8
                    obtain ⟨i036, hi036, _, hsz36, _⟩ := info_parts info3
                    obtain ⟨hcut36, hA36, hC36⟩ := print_take_of (P := Try.prog) (Value.int .i64) 0 34 3 .i64 Try.underlying34 hi036 hsz36 (some ad138) c1 l1 (ji15) (of_decide_eq_true (by first | (with_reducible assumption) | assumption)) (of_decide_eq_true (by first | (with_reducible assumption) | assumption)) HC1.out
                    have HR150 := Aside0.mk (Kd.C_of_reads (h1 := fun _ => rfl) (hA36 _ (Kd.reads_of_C HR1.out)))
                    have HC150 := Aside0.mk hC36
                    clear hA36 hC36 hi036 hsz36
                    try go_wp2_with (first | ((with_reducible refine gate_callee (f := 17) rfl ?_); refine goesL_ (some 40) rfl rfl Try.func17 (by kernel_rfl) rfl #[.int .i64 a0, .slice (some ad138) (l1.take ((ji15) : Int).toNat).length c1] rfl (by (try simp only [List.map_toArray, List.map_cons, List.map_nil]); first | done | (rw [show (l1.take ((ji15) : Int).toNat).length = (ji15).toNat from (by rw [List.length_take]; have h_ : ((ji15) : Int) ≤ (l1.length : Int) := of_decide_eq_true (by first | (with_reducible assumption) | assumption); omega)] <;> rfl) | (simp only [hji15]; rfl) | rfl | (simp only [List.length_drop, List.length_take]; rfl)) ?_; (with_reducible refine (paternosterref10_Known.calls k1 a0 _ _ (l1.take ((ji15) : Int).toNat) t151 _ ?side1 ?side2 A18.out).mono ?_); (case side1 => exact Kd.C_below HR150.out (by repeat (first | (with_reducible first | exact HB.out | apply below_alloc | apply pw_below_drewN | apply below_drew1 | refine below_set ?_ GE137.out | refine below_set ?_ GE149.out) | exact HB.out))); (case side2 => exact HC150.out); rintro e w' ⟨rfl, ⟨nd, rfl⟩⟩; refine ⟨_, rfl, ?_⟩))
                    go_roundg k1
                    case measure => have := HK1.out; omega
                    case rel => exact ⟨(ji15), (t139), (t140), (t141), (t142), (t143), (t144), (t145), (t146), (t147), (by first | rfl | (simp; done) | (simp only [← hji15] <;> (first | rfl | simp)) | (simp [*]; done)), H', ⟨by have := HK1.out; omega⟩, ⟨by (with_reducible repeat (first | refine blk_drewN ?_ _ | refine blk_drew ?_ | refine blk_alloc ?_ _)); refine blk_put (cs := #[.int .i64 t139, .int .i64 t140, .int .i64 t141, .int .i64 t142, .int .i64 t143, .int .i64 t144, .int .i64 t145, .int .i64 t146, .int .i64 x138008_1]) ?_ 8 _ rfl; (with_reducible repeat (first | refine blk_drewN ?_ _ | refine blk_drew ?_ | refine blk_alloc ?_ _)); refine blk_put (cs := #[.int .i64 t139, .int .i64 t140, .int .i64 t141, .int .i64 t142, .int .i64 t143, .int .i64 t144, .int .i64 t145, .int .i64 x138007_1, .int .i64 x138008_1]) ?_ 7 _ rfl; (with_reducible repeat (first | refine blk_drewN ?_ _ | refine blk_drew ?_ | refine blk_alloc ?_ _)); refine blk_put (cs := #[.int .i64 t139, .int .i64 t140, .int .i64 t141, .int .i64 t142, .int .i64 t143, .int .i64 t144, .int .i64 x138006_1, .int .i64 x138007_1, .int .i64 x138008_1]) ?_ 6 _ rfl; (with_reducible repeat (first | refine blk_drewN ?_ _ | refine blk_drew ?_ | refine blk_alloc ?_ _)); refine blk_put (cs := #[.int .i64 t139, .int .i64 t140, .int .i64 t141, .int .i64 t142, .int .i64 t143, .int .i64 x138005_1, .int .i64 x138006_1, .int .i64 x138007_1, .int .i64 x138008_1]) ?_ 5 _ rfl; (with_reducible repeat (first | refine blk_drewN ?_ _ | refine blk_drew ?_ | refine blk_alloc ?_ _)); refine blk_put (cs := #[.int .i64 t139, .int .i64 t140, .int .i64 t141, .int .i64 t142, .int .i64 x138004_1, .int .i64 x138005_1, .int .i64 x138006_1, .int .i64 x138007_1, .int .i64 x138008_1]) ?_ 4 _ rfl; (with_reducible repeat (first | refine blk_drewN ?_ _ | refine blk_drew ?_ | refine blk_alloc ?_ _)); refine blk_put (cs := #[.int .i64 t139, .int .i64 t140, .int .i64 t141, .int .i64 x138003_1, .int .i64 x138004_1, .int .i64 x138005_1, .int .i64 x138006_1, .int .i64 x138007_1, .int .i64 x138008_1]) ?_ 3 _ rfl; (with_reducible repeat (first | refine blk_drewN ?_ _ | refine blk_drew ?_ | refine blk_alloc ?_ _)); refine blk_put (cs := #[.int .i64 t139, .int .i64 t140, .int .i64 x138002_1, .int .i64 x138003_1, .int .i64 x138004_1, .int .i64 x138005_1, .int .i64 x138006_1, .int .i64 x138007_1, .int .i64 x138008_1]) ?_ 2 _ rfl; (with_reducible repeat (first | refine blk_drewN ?_ _ | refine blk_drew ?_ | refine blk_alloc ?_ _)); refine blk_put (cs := #[.int .i64 t139, .int .i64 x138001_1, .int .i64 x138002_1, .int .i64 x138003_1, .int .i64 x138004_1, .int .i64 x138005_1, .int .i64 x138006_1, .int .i64 x138007_1, .int .i64 x138008_1]) ?_ 1 _ rfl; (with_reducible repeat (first | refine blk_drewN ?_ _ | refine blk_drew ?_ | refine blk_alloc ?_ _)); refine blk_put (cs := #[.int .i64 x138000_1, .int .i64 x138001_1, .int .i64 x138002_1, .int .i64 x138003_1, .int .i64 x138004_1, .int .i64 x138005_1, .int .i64 x138006_1, .int .i64 x138007_1, .int .i64 x138008_1]) ?_ 0 _ rfl; (with_reducible repeat (first | refine blk_drewN ?_ _ | refine blk_drew ?_ | refine blk_alloc ?_ _)); refine blk_far ?_ NB137_149.out _; (with_reducible repeat (first | refine blk_drewN ?_ _ | refine blk_drew ?_ | refine blk_alloc ?_ _)); refine blk_far ?_ NB137_149.out _; (with_reducible repeat (first | refine blk_drewN ?_ _ | refine blk_drew ?_ | refine blk_alloc ?_ _)); refine blk_far ?_ NB137_149.out _; (with_reducible repeat (first | refine blk_drewN ?_ _ | refine blk_drew ?_ | refine blk_alloc ?_ _)); refine blk_far ?_ NB137_149.out _; (with_reducible repeat (first | refine blk_drewN ?_ _ | refine blk_drew ?_ | refine blk_alloc ?_ _)); refine blk_far ?_ NB137_149.out _; (with_reducible repeat (first | refine blk_drewN ?_ _ | refine blk_drew ?_ | refine blk_alloc ?_ _)); refine blk_far ?_ NB137_149.out _; (with_reducible repeat (first | refine blk_drewN ?_ _ | refine blk_drew ?_ | refine blk_alloc ?_ _)); refine blk_far ?_ NB137_149.out _; (with_reducible repeat (first | refine blk_drewN ?_ _ | refine blk_drew ?_ | refine blk_alloc ?_ _)); refine blk_far ?_ NB137_149.out _; (with_reducible repeat (first | refine blk_drewN ?_ _ | refine blk_drew ?_ | refine blk_alloc ?_ _)); refine blk_far ?_ NB137_149.out _; (with_reducible repeat (first | refine blk_drewN ?_ _ | refine blk_drew ?_ | refine blk_alloc ?_ _)); exact BK137.out⟩, ⟨by repeat (first | (with_reducible first | exact HB.out | apply below_alloc | apply pw_below_drewN | apply below_drew1 | refine below_set ?_ GE137.out | refine below_set ?_ GE149.out) | exact HB.out)⟩⟩
                  · rw [if_neg c19] at H
                    have c19b0 : (t148 == t151) = false := beq_eq_false_iff_ne.mpr c19
                    have c19b1 : (t148 != t151) = true := bne_iff_ne.mpr c19
                    obtain rfl := Option.some.inj H
                    try go_wp2
                    have n0_ := Aside0.mk (blk_drew BK137.out)
                    have n1_ := Aside0.mk (below_drew1 HB.out)
                    clear BK137
                    clear HB
                    have BK137 := n0_
                    have HB := n1_
                    clear n0_ n1_
                    have p138 : 0 ≤ (x7_1 : Int) := of_decide_eq_true (by first | (with_reducible assumption) | assumption)
                    have q138 : x7_1 < (l1.length : Int) := of_decide_eq_true (by first | (with_reducible assumption) | assumption)
                    obtain ⟨ad138, e138, hx138_0⟩ := Kd.at_int HR1.out x7_1 p138 q138
                    have hw138_0 := hx138_0
                    cases e138
                    replace hx138_0 := (HB.out.cell (World.block_lt_of_cell? w _ hx138_0)).trans hx138_0
                    replace p138 := eq_true p138
                    replace q138 := eq_true q138
                    refine start_ (n := 12) (S := fun w' => w'.cell? ⟨gb137, 0, none⟩ = some (.int .i64 x138000_1) ∧ w'.cell? ⟨gb137, 1, none⟩ = some (.int .i64 x138001_1) ∧ w'.cell? ⟨gb137, 2, none⟩ = some (.int .i64 x138002_1) ∧ w'.cell? ⟨gb137, 3, none⟩ = some (.int .i64 x138003_1) ∧ w'.cell? ⟨gb137, 4, none⟩ = some (.int .i64 x138004_1) ∧ w'.cell? ⟨gb137, 5, none⟩ = some (.int .i64 x138005_1) ∧ w'.cell? ⟨gb137, 6, none⟩ = some (.int .i64 x138006_1) ∧ w'.cell? ⟨gb137, 7, none⟩ = some (.int .i64 x138007_1) ∧ w'.cell? ⟨gb137, 8, none⟩ = some (.int .i64 x138008_1) ∧ w'.cell? (ad138.add (x7_1).toNat) = some (.int .i64 (rd l1 x7_1))) (ds := []) #[false, false, false, false, false, false, false, false, false, false, false, false] (by kernel_rfl) rfl rfl ⟨(blk_cell BK137.out 0).trans rfl, (blk_cell BK137.out 1).trans rfl, (blk_cell BK137.out 2).trans rfl, (blk_cell BK137.out 3).trans rfl, (blk_cell BK137.out 4).trans rfl, (blk_cell BK137.out 5).trans rfl, (blk_cell BK137.out 6).trans rfl, (blk_cell BK137.out 7).trans rfl, (blk_cell BK137.out 8).trans rfl, ((HB.out.cell (World.block_lt_of_cell? w _ hw138_0)).trans hw138_0)⟩ (fun hHeld => ?_); refine with_tabW paternosterlaw10_FeedKnows.tab10 paternosterlaw10_FeedKnows.bits10 (fun HT_ HW_ => ?_)
                    generalize wr.drew = w37 at BK137 HB hx138_0 hHeld ⊢
                    refine pure_ (i := 1) (N := some 26) (v := ?_) (a' := ?_) #[false, true, false, false, false, false, false, false, false, false, false, false] rfl rfl (any_of HT_.out (by kernel_rfl)) (fun _ _ _ h => h) (Or.inl ⟨by rfl, ?_⟩) ?_ ?_
                    rotate_left
                    · intro w'
                      go_simp
                      with_reducible rfl
                    rotate_left
                    · simp only [Act.put, List.setIfInBounds_toArray, List.set_cons_zero, List.set_cons_succ, i64_w, i32_w]
                      rfl
                    refine pure_ (i := 2) (N := some 27) (v := ?_) (a' := ?_) #[false, true, true, false, false, false, false, false, false, false, false, false] rfl rfl (any_of HT_.out (by kernel_rfl)) (fun _ _ _ h => h) (Or.inl ⟨by rfl, ?_⟩) ?_ ?_
                    rotate_left
                    · intro w'
                      go_simp
                      with_reducible rfl
                    rotate_left
                    · simp only [Act.put, List.setIfInBounds_toArray, List.set_cons_zero, List.set_cons_succ, i64_w, i32_w]
                      rfl
                    refine pure_ (i := 3) (N := some 28) (v := ?_) (a' := ?_) #[false, true, true, true, false, false, false, false, false, false, false, false] rfl rfl (any_of HT_.out (by kernel_rfl)) (fun _ _ _ h => h) (Or.inl ⟨by rfl, ?_⟩) ?_ ?_
                    rotate_left
                    · intro w'
                      go_simp
                      with_reducible rfl
                    rotate_left
                    · simp only [Act.put, List.setIfInBounds_toArray, List.set_cons_zero, List.set_cons_succ, i64_w, i32_w]
                      rfl
                    refine take_ (i := 0) (N := some 25) (v := ?_) (a' := ?_) #[true, true, true, true, false, false, false, false, false, false, false, false] rfl rfl (take_ofW HT_.out HW_.out (by kernel_rfl)) (fun _ _ _ h => h) (Or.inl ⟨by rfl, ?_⟩) hHeld ?_ ?_
                    rotate_left
                    · rintro w' ⟨s0, s1, s2, s3, s4, s5, s6, s7, s8, s9⟩
                      go_simp
                      with_reducible rfl
                    rotate_left
                    · simp only [Act.put, List.setIfInBounds_toArray, List.set_cons_zero, List.set_cons_succ, i64_w, i32_w]
                      rfl
                    refine take_ (i := 4) (N := some 29) (v := ?_) (a' := ?_) #[true, true, true, true, true, false, false, false, false, false, false, false] rfl rfl (take_ofW HT_.out HW_.out (by kernel_rfl)) (fun _ _ _ h => h) (Or.inl ⟨by rfl, ?_⟩) hHeld ?_ ?_
                    rotate_left
                    · rintro w' ⟨s0, s1, s2, s3, s4, s5, s6, s7, s8, s9⟩
                      go_simp
                      with_reducible rfl
                    rotate_left
                    · simp only [Act.put, List.setIfInBounds_toArray, List.set_cons_zero, List.set_cons_succ, i64_w, i32_w]
                      rfl
                    refine join_ (σ := Nat) 2 #[true, true, true, true, true, true, true, true, true, true, false, false] (fun s_ => [(30, .tuple #[.agg #[.int .i64 t139, .int .i64 t140, .int .i64 t141, .int .i64 t142, .int .i64 t143, .int .i64 t144, .int .i64 t145, .int .i64 t146, .int .i64 t147], .int .i64 t148]), (8, .pointer (some ⟨s_, 0, none⟩)), (24, .tuple #[.agg #[.int .i64 t139, .int .i64 t140, .int .i64 t141, .int .i64 t142, .int .i64 t143, .int .i64 t144, .int .i64 t145, .int .i64 t146, .int .i64 t147], .int .i64 t148]), (31, .agg #[.int .i64 t139, .int .i64 t140, .int .i64 t141, .int .i64 t142, .int .i64 t143, .int .i64 t144, .int .i64 t145, .int .i64 t146, .int .i64 t147]), (32, .int .i64 t148)]) (fun s_ w' => (w'.cell? ⟨gb137, 0, none⟩ = some (.int .i64 x138000_1) ∧ w'.cell? ⟨gb137, 1, none⟩ = some (.int .i64 x138001_1) ∧ w'.cell? ⟨gb137, 2, none⟩ = some (.int .i64 x138002_1) ∧ w'.cell? ⟨gb137, 3, none⟩ = some (.int .i64 x138003_1) ∧ w'.cell? ⟨gb137, 4, none⟩ = some (.int .i64 x138004_1) ∧ w'.cell? ⟨gb137, 5, none⟩ = some (.int .i64 x138005_1) ∧ w'.cell? ⟨gb137, 6, none⟩ = some (.int .i64 x138006_1) ∧ w'.cell? ⟨gb137, 7, none⟩ = some (.int .i64 x138007_1) ∧ w'.cell? ⟨gb137, 8, none⟩ = some (.int .i64 x138008_1) ∧ w'.cell? (ad138.add (x7_1).toNat) = some (.int .i64 (rd l1 x7_1))) ∧ (w'.heap[gb137]? = some (.cells #[.int .i64 x138000_1, .int .i64 x138001_1, .int .i64 x138002_1, .int .i64 x138003_1, .int .i64 x138004_1, .int .i64 x138005_1, .int .i64 x138006_1, .int .i64 x138007_1, .int .i64 x138008_1] 37 (0, 0))) ∧ (w'.heap[s_]? = some (.cells #[.int .i64 0, .int .i64 0, .int .i64 0, .int .i64 0, .int .i64 0, .int .i64 0, .int .i64 0, .int .i64 0, .int .i64 0] 37 (0, 0))) ∧ (w.heap.size ≤ s_) ∧ (w.heap.size ≤ s_) ∧ (gb137 ≠ s_) ∧ (s_ ≠ gb137) ∧ (Below w.heap.size w w')) ?_ ?_
                    rotate_left
                    · intro hCont
                      refine two_ (i := 5) (j := 9) (Ni := some 30) (Nj := some 8) #[true, true, true, true, true, true, false, false, false, false, false, false] #[true, true, true, true, true, false, false, false, false, true, false, false] rfl rfl rfl rfl (two_of HT_.out (by kernel_rfl)) (by decide) (by decide) (fun K hK => ?_) (fun K hK => ?_)
                      · skip
                        refine goes_ Try.func16 (by kernel_rfl) rfl #[.agg #[.int .i64 x138000_1, .int .i64 x138001_1, .int .i64 x138002_1, .int .i64 x138003_1, .int .i64 x138004_1, .int .i64 x138005_1, .int .i64 x138006_1, .int .i64 x138007_1, .int .i64 x138008_1], .int .i64 (rd l1 x7_1)] (by rfl) rfl rfl (by (try simp only [List.map_toArray, List.map_cons, List.map_nil]); first | done | rfl | (simp only [List.length_drop, List.length_take]; rfl)) ?_
                        with_reducible refine (feed_Known_Tell.calls x138000_1 x138001_1 x138002_1 x138003_1 x138004_1 x138005_1 x138006_1 x138007_1 x138008_1 (rd l1 x7_1) t139 t140 t141 t142 t143 t144 t145 t146 t147 t148 _ A14.out).mono ?_
                        rintro e w38 ⟨rfl, hb⟩
                        refine ⟨_, rfl, ?_⟩
                        have n0_ := Aside0.mk (blk_below (g := gb137) (o := .cells #[.int .i64 x138000_1, .int .i64 x138001_1, .int .i64 x138002_1, .int .i64 x138003_1, .int .i64 x138004_1, .int .i64 x138005_1, .int .i64 x138006_1, .int .i64 x138007_1, .int .i64 x138008_1] 37 (0, 0)) (by (with_reducible repeat (first | refine blk_drewN ?_ _ | refine blk_drew ?_ | refine blk_alloc ?_ _)); exact BK137.out) hb)
                        have n1_ := Aside0.mk (below_step (by repeat (first | (with_reducible first | exact HB.out | apply below_alloc | apply pw_below_drewN | apply below_drew1 | refine below_set ?_ GE137.out) | exact HB.out)) hb)
                        clear BK137
                        clear HB
                        have BK137 := n0_
                        have HB := n1_
                        clear n0_ n1_
                        (try clear hb)
                        (try clear hb2)
                        (try clear hk)
                        (try clear hi)
                        refine hK.out _ _ ⟨(blk_cell BK137.out 0).trans rfl, (blk_cell BK137.out 1).trans rfl, (blk_cell BK137.out 2).trans rfl, (blk_cell BK137.out 3).trans rfl, (blk_cell BK137.out 4).trans rfl, (blk_cell BK137.out 5).trans rfl, (blk_cell BK137.out 6).trans rfl, (blk_cell BK137.out 7).trans rfl, (blk_cell BK137.out 8).trans rfl, ((HB.out.cell (World.block_lt_of_cell? w _ hw138_0)).trans hw138_0)⟩ (fun hHeld => ?_)
                        clear hK K
                        refine norm_ (a' := ?_) ?_ ?_
                        rotate_left
                        · show Act.put _ (some 30) _ = _
                          simp only [Act.put, List.setIfInBounds_toArray, List.set_cons_zero, List.set_cons_succ, i64_w, i32_w]
                          rfl
                        refine pure_ (i := 6) (N := some 24) (v := ?_) (a' := ?_) #[true, true, true, true, true, true, true, false, false, false, false, false] rfl rfl (any_of HT_.out (by kernel_rfl)) (fun _ _ _ h => h) (Or.inl ⟨by rfl, ?_⟩) ?_ ?_
                        rotate_left
                        · intro w'
                          go_simp
                          with_reducible rfl
                        rotate_left
                        · simp only [Act.put, List.setIfInBounds_toArray, List.set_cons_zero, List.set_cons_succ, i64_w, i32_w]
                          rfl
                        refine pure_ (i := 7) (N := some 31) (v := ?_) (a' := ?_) #[true, true, true, true, true, true, true, true, false, false, false, false] rfl rfl (any_of HT_.out (by kernel_rfl)) (fun _ _ _ h => h) (Or.inl ⟨by rfl, ?_⟩) ?_ ?_
                        rotate_left
                        · intro w'
                          go_simp
                          with_reducible rfl
                        rotate_left
                        · simp only [Act.put, List.setIfInBounds_toArray, List.set_cons_zero, List.set_cons_succ, i64_w, i32_w]
                          rfl
                        refine pure_ (i := 8) (N := some 32) (v := ?_) (a' := ?_) #[true, true, true, true, true, true, true, true, true, false, false, false] rfl rfl (any_of HT_.out (by kernel_rfl)) (fun _ _ _ h => h) (Or.inl ⟨by rfl, ?_⟩) ?_ ?_
                        rotate_left
                        · intro w'
                          go_simp
                          with_reducible rfl
                        rotate_left
                        · simp only [Act.put, List.setIfInBounds_toArray, List.set_cons_zero, List.set_cons_succ, i64_w, i32_w]
                          rfl
                        refine one_ (i := 9) (N := some 8) #[true, true, true, true, true, true, true, true, true, true, false, false] rfl rfl (one_of HT_.out (by kernel_rfl)) (by decide) (fun K hK => ?_)
                        refine box_step ?hg (N := 8) ?hd (cs := #[.int .i64 0, .int .i64 0, .int .i64 0, .int .i64 0, .int .i64 0, .int .i64 0, .int .i64 0, .int .i64 0, .int .i64 0]) (t := 37) ?hr ?_; (case hd => rfl); (case hg => rfl); (case hr => first | (go_simp; done) | (go_simp; rfl))
                        intro gb149 hg w39 hbox hb
                        have n0_ := Aside0.mk (blk_below (g := gb137) (o := .cells #[.int .i64 x138000_1, .int .i64 x138001_1, .int .i64 x138002_1, .int .i64 x138003_1, .int .i64 x138004_1, .int .i64 x138005_1, .int .i64 x138006_1, .int .i64 x138007_1, .int .i64 x138008_1] 37 (0, 0)) (by (with_reducible repeat (first | refine blk_drewN ?_ _ | refine blk_drew ?_ | refine blk_alloc ?_ _)); exact BK137.out) hb)
                        have n1_ := Aside0.mk (below_step (by repeat (first | (with_reducible first | exact HB.out | apply below_alloc | apply pw_below_drewN | apply below_drew1 | refine below_set ?_ GE137.out) | exact HB.out)) hb)
                        have n2_ := Aside0.mk (hbox)
                        have n3_ := Aside0.mk ((by rw [hg]; exact (below_size (by repeat (first | (with_reducible first | exact HB.out | apply below_alloc | apply pw_below_drewN | apply below_drew1 | refine below_set ?_ GE137.out) | exact HB.out))) : w.heap.size ≤ gb149))
                        have n4_ := Aside0.mk ((by rw [hg]; exact (below_size (by repeat (first | (with_reducible first | exact HB.out | apply below_alloc | apply pw_below_drewN | apply below_drew1 | refine below_set ?_ GE137.out) | exact HB.out))) : w.heap.size ≤ gb149))
                        have n5_ := Aside0.mk ((by rw [hg]; exact Nat.ne_of_lt (blk_lt (g := gb137) (o := .cells #[.int .i64 x138000_1, .int .i64 x138001_1, .int .i64 x138002_1, .int .i64 x138003_1, .int .i64 x138004_1, .int .i64 x138005_1, .int .i64 x138006_1, .int .i64 x138007_1, .int .i64 x138008_1] 37 (0, 0)) (by (with_reducible repeat (first | refine blk_drewN ?_ _ | refine blk_drew ?_ | refine blk_alloc ?_ _)); exact BK137.out)) : gb137 ≠ gb149))
                        have n6_ := Aside0.mk ((by rw [hg]; exact Nat.ne_of_gt (blk_lt (g := gb137) (o := .cells #[.int .i64 x138000_1, .int .i64 x138001_1, .int .i64 x138002_1, .int .i64 x138003_1, .int .i64 x138004_1, .int .i64 x138005_1, .int .i64 x138006_1, .int .i64 x138007_1, .int .i64 x138008_1] 37 (0, 0)) (by (with_reducible repeat (first | refine blk_drewN ?_ _ | refine blk_drew ?_ | refine blk_alloc ?_ _)); exact BK137.out)) : gb149 ≠ gb137))
                        clear BK137
                        clear HB
                        have BK137 := n0_
                        have HB := n1_
                        have BK149 := n2_
                        have GW149 := n3_
                        have GE149 := n4_
                        have NB137_149 := n5_
                        have NB149_137 := n6_
                        clear n0_ n1_ n2_ n3_ n4_ n5_ n6_
                        clear hb hbox hg
                        refine hK.out _ _ ⟨(blk_cell BK137.out 0).trans rfl, (blk_cell BK137.out 1).trans rfl, (blk_cell BK137.out 2).trans rfl, (blk_cell BK137.out 3).trans rfl, (blk_cell BK137.out 4).trans rfl, (blk_cell BK137.out 5).trans rfl, (blk_cell BK137.out 6).trans rfl, (blk_cell BK137.out 7).trans rfl, (blk_cell BK137.out 8).trans rfl, ((HB.out.cell (World.block_lt_of_cell? w _ hw138_0)).trans hw138_0)⟩ (fun hHeld => ?_)
                        clear hK K
                        refine norm_ (a' := ?_) ?_ ?_
                        rotate_left
                        · show Act.put _ (some 8) _ = _
                          simp only [Act.put, List.setIfInBounds_toArray, List.set_cons_zero, List.set_cons_succ, i64_w, i32_w]
                          rfl
                        exact norm_ (by simp only [putAll, Act.put, List.setIfInBounds_toArray, List.set_cons_zero, List.set_cons_succ]) (hCont (gb149) _ ⟨hHeld, (by (with_reducible repeat (first | refine blk_drewN ?_ _ | refine blk_drew ?_ | refine blk_alloc ?_ _)); exact BK137.out), (by (with_reducible repeat (first | refine blk_drewN ?_ _ | refine blk_drew ?_ | refine blk_alloc ?_ _)); exact BK149.out), GW149.out, GE149.out, NB137_149.out, NB149_137.out, (by repeat (first | (with_reducible first | exact HB.out | apply below_alloc | apply pw_below_drewN | apply below_drew1 | refine below_set ?_ GE137.out | refine below_set ?_ GE149.out) | exact HB.out))⟩)
                      · skip
                        refine box_step ?hg (N := 8) ?hd (cs := #[.int .i64 0, .int .i64 0, .int .i64 0, .int .i64 0, .int .i64 0, .int .i64 0, .int .i64 0, .int .i64 0, .int .i64 0]) (t := 37) ?hr ?_; (case hd => rfl); (case hg => rfl); (case hr => first | (go_simp; done) | (go_simp; rfl))
                        intro gb149 hg w38 hbox hb
                        have n0_ := Aside0.mk (blk_below (g := gb137) (o := .cells #[.int .i64 x138000_1, .int .i64 x138001_1, .int .i64 x138002_1, .int .i64 x138003_1, .int .i64 x138004_1, .int .i64 x138005_1, .int .i64 x138006_1, .int .i64 x138007_1, .int .i64 x138008_1] 37 (0, 0)) (by (with_reducible repeat (first | refine blk_drewN ?_ _ | refine blk_drew ?_ | refine blk_alloc ?_ _)); exact BK137.out) hb)
                        have n1_ := Aside0.mk (below_step (by repeat (first | (with_reducible first | exact HB.out | apply below_alloc | apply pw_below_drewN | apply below_drew1 | refine below_set ?_ GE137.out) | exact HB.out)) hb)
                        have n2_ := Aside0.mk (hbox)
                        have n3_ := Aside0.mk ((by rw [hg]; exact (below_size (by repeat (first | (with_reducible first | exact HB.out | apply below_alloc | apply pw_below_drewN | apply below_drew1 | refine below_set ?_ GE137.out) | exact HB.out))) : w.heap.size ≤ gb149))
                        have n4_ := Aside0.mk ((by rw [hg]; exact (below_size (by repeat (first | (with_reducible first | exact HB.out | apply below_alloc | apply pw_below_drewN | apply below_drew1 | refine below_set ?_ GE137.out) | exact HB.out))) : w.heap.size ≤ gb149))
                        have n5_ := Aside0.mk ((by rw [hg]; exact Nat.ne_of_lt (blk_lt (g := gb137) (o := .cells #[.int .i64 x138000_1, .int .i64 x138001_1, .int .i64 x138002_1, .int .i64 x138003_1, .int .i64 x138004_1, .int .i64 x138005_1, .int .i64 x138006_1, .int .i64 x138007_1, .int .i64 x138008_1] 37 (0, 0)) (by (with_reducible repeat (first | refine blk_drewN ?_ _ | refine blk_drew ?_ | refine blk_alloc ?_ _)); exact BK137.out)) : gb137 ≠ gb149))
                        have n6_ := Aside0.mk ((by rw [hg]; exact Nat.ne_of_gt (blk_lt (g := gb137) (o := .cells #[.int .i64 x138000_1, .int .i64 x138001_1, .int .i64 x138002_1, .int .i64 x138003_1, .int .i64 x138004_1, .int .i64 x138005_1, .int .i64 x138006_1, .int .i64 x138007_1, .int .i64 x138008_1] 37 (0, 0)) (by (with_reducible repeat (first | refine blk_drewN ?_ _ | refine blk_drew ?_ | refine blk_alloc ?_ _)); exact BK137.out)) : gb149 ≠ gb137))
                        clear BK137
                        clear HB
                        have BK137 := n0_
                        have HB := n1_
                        have BK149 := n2_
                        have GW149 := n3_
                        have GE149 := n4_
                        have NB137_149 := n5_
                        have NB149_137 := n6_
                        clear n0_ n1_ n2_ n3_ n4_ n5_ n6_
                        clear hb hbox hg
                        refine hK.out _ _ ⟨(blk_cell BK137.out 0).trans rfl, (blk_cell BK137.out 1).trans rfl, (blk_cell BK137.out 2).trans rfl, (blk_cell BK137.out 3).trans rfl, (blk_cell BK137.out 4).trans rfl, (blk_cell BK137.out 5).trans rfl, (blk_cell BK137.out 6).trans rfl, (blk_cell BK137.out 7).trans rfl, (blk_cell BK137.out 8).trans rfl, ((HB.out.cell (World.block_lt_of_cell? w _ hw138_0)).trans hw138_0)⟩ (fun hHeld => ?_)
                        clear hK K
                        refine norm_ (a' := ?_) ?_ ?_
                        rotate_left
                        · show Act.put _ (some 8) _ = _
                          simp only [Act.put, List.setIfInBounds_toArray, List.set_cons_zero, List.set_cons_succ, i64_w, i32_w]
                          rfl
                        refine one_ (i := 5) (N := some 30) #[true, true, true, true, true, true, false, false, false, true, false, false] rfl rfl (one_of HT_.out (by kernel_rfl)) (by decide) (fun K hK => ?_)
                        refine goes_ Try.func16 (by kernel_rfl) rfl #[.agg #[.int .i64 x138000_1, .int .i64 x138001_1, .int .i64 x138002_1, .int .i64 x138003_1, .int .i64 x138004_1, .int .i64 x138005_1, .int .i64 x138006_1, .int .i64 x138007_1, .int .i64 x138008_1], .int .i64 (rd l1 x7_1)] (by rfl) rfl rfl (by (try simp only [List.map_toArray, List.map_cons, List.map_nil]); first | done | rfl | (simp only [List.length_drop, List.length_take]; rfl)) ?_
                        with_reducible refine (feed_Known_Tell.calls x138000_1 x138001_1 x138002_1 x138003_1 x138004_1 x138005_1 x138006_1 x138007_1 x138008_1 (rd l1 x7_1) t139 t140 t141 t142 t143 t144 t145 t146 t147 t148 _ A14.out).mono ?_
                        rintro e w39 ⟨rfl, hb⟩
                        refine ⟨_, rfl, ?_⟩
                        have n0_ := Aside0.mk (blk_below (g := gb137) (o := .cells #[.int .i64 x138000_1, .int .i64 x138001_1, .int .i64 x138002_1, .int .i64 x138003_1, .int .i64 x138004_1, .int .i64 x138005_1, .int .i64 x138006_1, .int .i64 x138007_1, .int .i64 x138008_1] 37 (0, 0)) (by (with_reducible repeat (first | refine blk_drewN ?_ _ | refine blk_drew ?_ | refine blk_alloc ?_ _)); exact BK137.out) hb)
                        have n1_ := Aside0.mk (blk_below (g := gb149) (o := .cells #[.int .i64 0, .int .i64 0, .int .i64 0, .int .i64 0, .int .i64 0, .int .i64 0, .int .i64 0, .int .i64 0, .int .i64 0] 37 (0, 0)) (by (with_reducible repeat (first | refine blk_drewN ?_ _ | refine blk_drew ?_ | refine blk_alloc ?_ _)); exact BK149.out) hb)
                        have n2_ := Aside0.mk (below_step (by repeat (first | (with_reducible first | exact HB.out | apply below_alloc | apply pw_below_drewN | apply below_drew1 | refine below_set ?_ GE137.out | refine below_set ?_ GE149.out) | exact HB.out)) hb)
                        clear BK137
                        clear BK149
                        clear HB
                        have BK137 := n0_
                        have BK149 := n1_
                        have HB := n2_
                        clear n0_ n1_ n2_
                        (try clear hb)
                        (try clear hb2)
                        (try clear hk)
                        (try clear hi)
                        refine hK.out _ _ ⟨(blk_cell BK137.out 0).trans rfl, (blk_cell BK137.out 1).trans rfl, (blk_cell BK137.out 2).trans rfl, (blk_cell BK137.out 3).trans rfl, (blk_cell BK137.out 4).trans rfl, (blk_cell BK137.out 5).trans rfl, (blk_cell BK137.out 6).trans rfl, (blk_cell BK137.out 7).trans rfl, (blk_cell BK137.out 8).trans rfl, ((HB.out.cell (World.block_lt_of_cell? w _ hw138_0)).trans hw138_0)⟩ (fun hHeld => ?_)
                        clear hK K
                        refine norm_ (a' := ?_) ?_ ?_
                        rotate_left
                        · show Act.put _ (some 30) _ = _
                          simp only [Act.put, List.setIfInBounds_toArray, List.set_cons_zero, List.set_cons_succ, i64_w, i32_w]
                          rfl
                        refine pure_ (i := 6) (N := some 24) (v := ?_) (a' := ?_) #[true, true, true, true, true, true, true, false, false, true, false, false] rfl rfl (any_of HT_.out (by kernel_rfl)) (fun _ _ _ h => h) (Or.inl ⟨by rfl, ?_⟩) ?_ ?_
                        rotate_left
                        · intro w'
                          go_simp
                          with_reducible rfl
                        rotate_left
                        · simp only [Act.put, List.setIfInBounds_toArray, List.set_cons_zero, List.set_cons_succ, i64_w, i32_w]
                          rfl
                        refine pure_ (i := 7) (N := some 31) (v := ?_) (a' := ?_) #[true, true, true, true, true, true, true, true, false, true, false, false] rfl rfl (any_of HT_.out (by kernel_rfl)) (fun _ _ _ h => h) (Or.inl ⟨by rfl, ?_⟩) ?_ ?_
                        rotate_left
                        · intro w'
                          go_simp
                          with_reducible rfl
                        rotate_left
                        · simp only [Act.put, List.setIfInBounds_toArray, List.set_cons_zero, List.set_cons_succ, i64_w, i32_w]
                          rfl
                        refine pure_ (i := 8) (N := some 32) (v := ?_) (a' := ?_) #[true, true, true, true, true, true, true, true, true, true, false, false] rfl rfl (any_of HT_.out (by kernel_rfl)) (fun _ _ _ h => h) (Or.inl ⟨by rfl, ?_⟩) ?_ ?_
                        rotate_left
                        · intro w'
                          go_simp
                          with_reducible rfl
                        rotate_left
                        · simp only [Act.put, List.setIfInBounds_toArray, List.set_cons_zero, List.set_cons_succ, i64_w, i32_w]
                          rfl
                        exact norm_ (by simp only [putAll, Act.put, List.setIfInBounds_toArray, List.set_cons_zero, List.set_cons_succ]) (hCont (gb149) _ ⟨hHeld, (by (with_reducible repeat (first | refine blk_drewN ?_ _ | refine blk_drew ?_ | refine blk_alloc ?_ _)); exact BK137.out), (by (with_reducible repeat (first | refine blk_drewN ?_ _ | refine blk_drew ?_ | refine blk_alloc ?_ _)); exact BK149.out), GW149.out, GE149.out, NB137_149.out, NB149_137.out, (by repeat (first | (with_reducible first | exact HB.out | apply below_alloc | apply pw_below_drewN | apply below_drew1 | refine below_set ?_ GE137.out | refine below_set ?_ GE149.out) | exact HB.out))⟩)
                    rintro gb149 w40 ⟨hS_, h0_, h1_, h2_, h3_, h4_, h5_, h6_⟩
                    have n0_ : Aside0 (w40.heap[gb137]? = some (.cells #[.int .i64 x138000_1, .int .i64 x138001_1, .int .i64 x138002_1, .int .i64 x138003_1, .int .i64 x138004_1, .int .i64 x138005_1, .int .i64 x138006_1, .int .i64 x138007_1, .int .i64 x138008_1] 37 (0, 0))) := ⟨h0_⟩
                    have n1_ : Aside0 (w40.heap[gb149]? = some (.cells #[.int .i64 0, .int .i64 0, .int .i64 0, .int .i64 0, .int .i64 0, .int .i64 0, .int .i64 0, .int .i64 0, .int .i64 0] 37 (0, 0))) := ⟨h1_⟩
                    have n2_ : Aside0 (w.heap.size ≤ gb149) := ⟨h2_⟩
                    have n3_ : Aside0 (w.heap.size ≤ gb149) := ⟨h3_⟩
                    have n4_ : Aside0 (gb137 ≠ gb149) := ⟨h4_⟩
                    have n5_ : Aside0 (gb149 ≠ gb137) := ⟨h5_⟩
                    have n6_ : Aside0 (Below w.heap.size w w40) := ⟨h6_⟩
                    clear BK137
                    clear HB
                    clear h0_ h1_ h2_ h3_ h4_ h5_ h6_
                    have BK137 := n0_
                    have BK149 := n1_
                    have GW149 := n2_
                    have GE149 := n3_
                    have NB137_149 := n4_
                    have NB149_137 := n5_
                    have HB := n6_
                    clear n0_ n1_ n2_ n3_ n4_ n5_ n6_
                    have hHeld : w40.cell? ⟨gb137, 0, none⟩ = some (.int .i64 x138000_1) ∧ w40.cell? ⟨gb137, 1, none⟩ = some (.int .i64 x138001_1) ∧ w40.cell? ⟨gb137, 2, none⟩ = some (.int .i64 x138002_1) ∧ w40.cell? ⟨gb137, 3, none⟩ = some (.int .i64 x138003_1) ∧ w40.cell? ⟨gb137, 4, none⟩ = some (.int .i64 x138004_1) ∧ w40.cell? ⟨gb137, 5, none⟩ = some (.int .i64 x138005_1) ∧ w40.cell? ⟨gb137, 6, none⟩ = some (.int .i64 x138006_1) ∧ w40.cell? ⟨gb137, 7, none⟩ = some (.int .i64 x138007_1) ∧ w40.cell? ⟨gb137, 8, none⟩ = some (.int .i64 x138008_1) ∧ w40.cell? (ad138.add (x7_1).toNat) = some (.int .i64 (rd l1 x7_1)) := hS_
                    refine norm_ (a' := ?_) ?_ ?_
                    rotate_left
                    · simp only [putAll, Act.put, List.setIfInBounds_toArray, List.set_cons_zero, List.set_cons_succ]
                      rfl
                    refine one_ (i := 10) (N := none) #[true, true, true, true, true, true, true, true, true, true, true, false] rfl rfl (one_of HT_.out (by kernel_rfl)) (by decide) (fun K hK => ?_)
                    have hs41 : w40.cell? ⟨gb149, 0, none⟩ = some (.int .i64 0) := (blk_cell BK149.out 0).trans rfl
                    have hfs41 := blk_frozen BK149.out 0
                    have hns41_0 := NB137_149.out
                    have hms41_0 := NB149_137.out
                    have hs42 : w40.cell? ⟨gb149, 1, none⟩ = some (.int .i64 0) := (blk_cell BK149.out 1).trans rfl
                    have hfs42 := blk_frozen BK149.out 1
                    have hns42_0 := NB137_149.out
                    have hms42_0 := NB149_137.out
                    have hs43 : w40.cell? ⟨gb149, 2, none⟩ = some (.int .i64 0) := (blk_cell BK149.out 2).trans rfl
                    have hfs43 := blk_frozen BK149.out 2
                    have hns43_0 := NB137_149.out
                    have hms43_0 := NB149_137.out
                    have hs44 : w40.cell? ⟨gb149, 3, none⟩ = some (.int .i64 0) := (blk_cell BK149.out 3).trans rfl
                    have hfs44 := blk_frozen BK149.out 3
                    have hns44_0 := NB137_149.out
                    have hms44_0 := NB149_137.out
                    have hs45 : w40.cell? ⟨gb149, 4, none⟩ = some (.int .i64 0) := (blk_cell BK149.out 4).trans rfl
                    have hfs45 := blk_frozen BK149.out 4
                    have hns45_0 := NB137_149.out
                    have hms45_0 := NB149_137.out
                    have hs46 : w40.cell? ⟨gb149, 5, none⟩ = some (.int .i64 0) := (blk_cell BK149.out 5).trans rfl
                    have hfs46 := blk_frozen BK149.out 5
                    have hns46_0 := NB137_149.out
                    have hms46_0 := NB149_137.out
                    have hs47 : w40.cell? ⟨gb149, 6, none⟩ = some (.int .i64 0) := (blk_cell BK149.out 6).trans rfl
                    have hfs47 := blk_frozen BK149.out 6
                    have hns47_0 := NB137_149.out
                    have hms47_0 := NB149_137.out
                    have hs48 : w40.cell? ⟨gb149, 7, none⟩ = some (.int .i64 0) := (blk_cell BK149.out 7).trans rfl
                    have hfs48 := blk_frozen BK149.out 7
                    have hns48_0 := NB137_149.out
                    have hms48_0 := NB149_137.out
                    have hs49 : w40.cell? ⟨gb149, 8, none⟩ = some (.int .i64 0) := (blk_cell BK149.out 8).trans rfl
                    have hfs49 := blk_frozen BK149.out 8
                    have hns49_0 := NB137_149.out
                    have hms49_0 := NB149_137.out
                    refine skip_ (w1 := ?_) (by rfl) rfl ?_ ?_
                    rotate_left
                    · go_simp
                      rfl
                    refine hK.out _ _ ⟨((cell_far (p := ⟨gb149, _, none⟩) NB137_149.out _).trans (((cell_far (p := ⟨gb149, _, none⟩) NB137_149.out _).trans (((cell_far (p := ⟨gb149, _, none⟩) NB137_149.out _).trans (((cell_far (p := ⟨gb149, _, none⟩) NB137_149.out _).trans (((cell_far (p := ⟨gb149, _, none⟩) NB137_149.out _).trans (((cell_far (p := ⟨gb149, _, none⟩) NB137_149.out _).trans (((cell_far (p := ⟨gb149, _, none⟩) NB137_149.out _).trans (((cell_far (p := ⟨gb149, _, none⟩) NB137_149.out _).trans (((cell_far (p := ⟨gb149, _, none⟩) NB137_149.out _).trans (hHeld.1)))))))))))))))))), ((cell_far (p := ⟨gb149, _, none⟩) NB137_149.out _).trans (((cell_far (p := ⟨gb149, _, none⟩) NB137_149.out _).trans (((cell_far (p := ⟨gb149, _, none⟩) NB137_149.out _).trans (((cell_far (p := ⟨gb149, _, none⟩) NB137_149.out _).trans (((cell_far (p := ⟨gb149, _, none⟩) NB137_149.out _).trans (((cell_far (p := ⟨gb149, _, none⟩) NB137_149.out _).trans (((cell_far (p := ⟨gb149, _, none⟩) NB137_149.out _).trans (((cell_far (p := ⟨gb149, _, none⟩) NB137_149.out _).trans (((cell_far (p := ⟨gb149, _, none⟩) NB137_149.out _).trans (hHeld.2.1)))))))))))))))))), ((cell_far (p := ⟨gb149, _, none⟩) NB137_149.out _).trans (((cell_far (p := ⟨gb149, _, none⟩) NB137_149.out _).trans (((cell_far (p := ⟨gb149, _, none⟩) NB137_149.out _).trans (((cell_far (p := ⟨gb149, _, none⟩) NB137_149.out _).trans (((cell_far (p := ⟨gb149, _, none⟩) NB137_149.out _).trans (((cell_far (p := ⟨gb149, _, none⟩) NB137_149.out _).trans (((cell_far (p := ⟨gb149, _, none⟩) NB137_149.out _).trans (((cell_far (p := ⟨gb149, _, none⟩) NB137_149.out _).trans (((cell_far (p := ⟨gb149, _, none⟩) NB137_149.out _).trans (hHeld.2.2.1)))))))))))))))))), ((cell_far (p := ⟨gb149, _, none⟩) NB137_149.out _).trans (((cell_far (p := ⟨gb149, _, none⟩) NB137_149.out _).trans (((cell_far (p := ⟨gb149, _, none⟩) NB137_149.out _).trans (((cell_far (p := ⟨gb149, _, none⟩) NB137_149.out _).trans (((cell_far (p := ⟨gb149, _, none⟩) NB137_149.out _).trans (((cell_far (p := ⟨gb149, _, none⟩) NB137_149.out _).trans (((cell_far (p := ⟨gb149, _, none⟩) NB137_149.out _).trans (((cell_far (p := ⟨gb149, _, none⟩) NB137_149.out _).trans (((cell_far (p := ⟨gb149, _, none⟩) NB137_149.out _).trans (hHeld.2.2.2.1)))))))))))))))))), ((cell_far (p := ⟨gb149, _, none⟩) NB137_149.out _).trans (((cell_far (p := ⟨gb149, _, none⟩) NB137_149.out _).trans (((cell_far (p := ⟨gb149, _, none⟩) NB137_149.out _).trans (((cell_far (p := ⟨gb149, _, none⟩) NB137_149.out _).trans (((cell_far (p := ⟨gb149, _, none⟩) NB137_149.out _).trans (((cell_far (p := ⟨gb149, _, none⟩) NB137_149.out _).trans (((cell_far (p := ⟨gb149, _, none⟩) NB137_149.out _).trans (((cell_far (p := ⟨gb149, _, none⟩) NB137_149.out _).trans (((cell_far (p := ⟨gb149, _, none⟩) NB137_149.out _).trans (hHeld.2.2.2.2.1)))))))))))))))))), ((cell_far (p := ⟨gb149, _, none⟩) NB137_149.out _).trans (((cell_far (p := ⟨gb149, _, none⟩) NB137_149.out _).trans (((cell_far (p := ⟨gb149, _, none⟩) NB137_149.out _).trans (((cell_far (p := ⟨gb149, _, none⟩) NB137_149.out _).trans (((cell_far (p := ⟨gb149, _, none⟩) NB137_149.out _).trans (((cell_far (p := ⟨gb149, _, none⟩) NB137_149.out _).trans (((cell_far (p := ⟨gb149, _, none⟩) NB137_149.out _).trans (((cell_far (p := ⟨gb149, _, none⟩) NB137_149.out _).trans (((cell_far (p := ⟨gb149, _, none⟩) NB137_149.out _).trans (hHeld.2.2.2.2.2.1)))))))))))))))))), ((cell_far (p := ⟨gb149, _, none⟩) NB137_149.out _).trans (((cell_far (p := ⟨gb149, _, none⟩) NB137_149.out _).trans (((cell_far (p := ⟨gb149, _, none⟩) NB137_149.out _).trans (((cell_far (p := ⟨gb149, _, none⟩) NB137_149.out _).trans (((cell_far (p := ⟨gb149, _, none⟩) NB137_149.out _).trans (((cell_far (p := ⟨gb149, _, none⟩) NB137_149.out _).trans (((cell_far (p := ⟨gb149, _, none⟩) NB137_149.out _).trans (((cell_far (p := ⟨gb149, _, none⟩) NB137_149.out _).trans (((cell_far (p := ⟨gb149, _, none⟩) NB137_149.out _).trans (hHeld.2.2.2.2.2.2.1)))))))))))))))))), ((cell_far (p := ⟨gb149, _, none⟩) NB137_149.out _).trans (((cell_far (p := ⟨gb149, _, none⟩) NB137_149.out _).trans (((cell_far (p := ⟨gb149, _, none⟩) NB137_149.out _).trans (((cell_far (p := ⟨gb149, _, none⟩) NB137_149.out _).trans (((cell_far (p := ⟨gb149, _, none⟩) NB137_149.out _).trans (((cell_far (p := ⟨gb149, _, none⟩) NB137_149.out _).trans (((cell_far (p := ⟨gb149, _, none⟩) NB137_149.out _).trans (((cell_far (p := ⟨gb149, _, none⟩) NB137_149.out _).trans (((cell_far (p := ⟨gb149, _, none⟩) NB137_149.out _).trans (hHeld.2.2.2.2.2.2.2.1)))))))))))))))))), ((cell_far (p := ⟨gb149, _, none⟩) NB137_149.out _).trans (((cell_far (p := ⟨gb149, _, none⟩) NB137_149.out _).trans (((cell_far (p := ⟨gb149, _, none⟩) NB137_149.out _).trans (((cell_far (p := ⟨gb149, _, none⟩) NB137_149.out _).trans (((cell_far (p := ⟨gb149, _, none⟩) NB137_149.out _).trans (((cell_far (p := ⟨gb149, _, none⟩) NB137_149.out _).trans (((cell_far (p := ⟨gb149, _, none⟩) NB137_149.out _).trans (((cell_far (p := ⟨gb149, _, none⟩) NB137_149.out _).trans (((cell_far (p := ⟨gb149, _, none⟩) NB137_149.out _).trans (hHeld.2.2.2.2.2.2.2.2.1)))))))))))))))))), ((cell_far (p := ⟨gb149, _, none⟩) (by first | exact Nat.ne_of_lt (Nat.lt_of_lt_of_le (by have := World.block_lt_of_cell? _ _ hw138_0; first | rwa [add_block] at this | exact this) GW149.out) | (rw [add_block]; exact Nat.ne_of_lt (Nat.lt_of_lt_of_le (by have := World.block_lt_of_cell? _ _ hw138_0; first | rwa [add_block] at this | exact this) GW149.out)) | (show (Addr.add _ _).block ≠ _; rw [add_block]; exact Nat.ne_of_lt (Nat.lt_of_lt_of_le (by have := World.block_lt_of_cell? _ _ hw138_0; first | rwa [add_block] at this | exact this) GW149.out)) | (dsimp only; exact Nat.ne_of_lt (Nat.lt_of_lt_of_le (by have := World.block_lt_of_cell? _ _ hw138_0; first | rwa [add_block] at this | exact this) GW149.out))) _).trans (((cell_far (p := ⟨gb149, _, none⟩) (by first | exact Nat.ne_of_lt (Nat.lt_of_lt_of_le (by have := World.block_lt_of_cell? _ _ hw138_0; first | rwa [add_block] at this | exact this) GW149.out) | (rw [add_block]; exact Nat.ne_of_lt (Nat.lt_of_lt_of_le (by have := World.block_lt_of_cell? _ _ hw138_0; first | rwa [add_block] at this | exact this) GW149.out)) | (show (Addr.add _ _).block ≠ _; rw [add_block]; exact Nat.ne_of_lt (Nat.lt_of_lt_of_le (by have := World.block_lt_of_cell? _ _ hw138_0; first | rwa [add_block] at this | exact this) GW149.out)) | (dsimp only; exact Nat.ne_of_lt (Nat.lt_of_lt_of_le (by have := World.block_lt_of_cell? _ _ hw138_0; first | rwa [add_block] at this | exact this) GW149.out))) _).trans (((cell_far (p := ⟨gb149, _, none⟩) (by first | exact Nat.ne_of_lt (Nat.lt_of_lt_of_le (by have := World.block_lt_of_cell? _ _ hw138_0; first | rwa [add_block] at this | exact this) GW149.out) | (rw [add_block]; exact Nat.ne_of_lt (Nat.lt_of_lt_of_le (by have := World.block_lt_of_cell? _ _ hw138_0; first | rwa [add_block] at this | exact this) GW149.out)) | (show (Addr.add _ _).block ≠ _; rw [add_block]; exact Nat.ne_of_lt (Nat.lt_of_lt_of_le (by have := World.block_lt_of_cell? _ _ hw138_0; first | rwa [add_block] at this | exact this) GW149.out)) | (dsimp only; exact Nat.ne_of_lt (Nat.lt_of_lt_of_le (by have := World.block_lt_of_cell? _ _ hw138_0; first | rwa [add_block] at this | exact this) GW149.out))) _).trans (((cell_far (p := ⟨gb149, _, none⟩) (by first | exact Nat.ne_of_lt (Nat.lt_of_lt_of_le (by have := World.block_lt_of_cell? _ _ hw138_0; first | rwa [add_block] at this | exact this) GW149.out) | (rw [add_block]; exact Nat.ne_of_lt (Nat.lt_of_lt_of_le (by have := World.block_lt_of_cell? _ _ hw138_0; first | rwa [add_block] at this | exact this) GW149.out)) | (show (Addr.add _ _).block ≠ _; rw [add_block]; exact Nat.ne_of_lt (Nat.lt_of_lt_of_le (by have := World.block_lt_of_cell? _ _ hw138_0; first | rwa [add_block] at this | exact this) GW149.out)) | (dsimp only; exact Nat.ne_of_lt (Nat.lt_of_lt_of_le (by have := World.block_lt_of_cell? _ _ hw138_0; first | rwa [add_block] at this | exact this) GW149.out))) _).trans (((cell_far (p := ⟨gb149, _, none⟩) (by first | exact Nat.ne_of_lt (Nat.lt_of_lt_of_le (by have := World.block_lt_of_cell? _ _ hw138_0; first | rwa [add_block] at this | exact this) GW149.out) | (rw [add_block]; exact Nat.ne_of_lt (Nat.lt_of_lt_of_le (by have := World.block_lt_of_cell? _ _ hw138_0; first | rwa [add_block] at this | exact this) GW149.out)) | (show (Addr.add _ _).block ≠ _; rw [add_block]; exact Nat.ne_of_lt (Nat.lt_of_lt_of_le (by have := World.block_lt_of_cell? _ _ hw138_0; first | rwa [add_block] at this | exact this) GW149.out)) | (dsimp only; exact Nat.ne_of_lt (Nat.lt_of_lt_of_le (by have := World.block_lt_of_cell? _ _ hw138_0; first | rwa [add_block] at this | exact this) GW149.out))) _).trans (((cell_far (p := ⟨gb149, _, none⟩) (by first | exact Nat.ne_of_lt (Nat.lt_of_lt_of_le (by have := World.block_lt_of_cell? _ _ hw138_0; first | rwa [add_block] at this | exact this) GW149.out) | (rw [add_block]; exact Nat.ne_of_lt (Nat.lt_of_lt_of_le (by have := World.block_lt_of_cell? _ _ hw138_0; first | rwa [add_block] at this | exact this) GW149.out)) | (show (Addr.add _ _).block ≠ _; rw [add_block]; exact Nat.ne_of_lt (Nat.lt_of_lt_of_le (by have := World.block_lt_of_cell? _ _ hw138_0; first | rwa [add_block] at this | exact this) GW149.out)) | (dsimp only; exact Nat.ne_of_lt (Nat.lt_of_lt_of_le (by have := World.block_lt_of_cell? _ _ hw138_0; first | rwa [add_block] at this | exact this) GW149.out))) _).trans (((cell_far (p := ⟨gb149, _, none⟩) (by first | exact Nat.ne_of_lt (Nat.lt_of_lt_of_le (by have := World.block_lt_of_cell? _ _ hw138_0; first | rwa [add_block] at this | exact this) GW149.out) | (rw [add_block]; exact Nat.ne_of_lt (Nat.lt_of_lt_of_le (by have := World.block_lt_of_cell? _ _ hw138_0; first | rwa [add_block] at this | exact this) GW149.out)) | (show (Addr.add _ _).block ≠ _; rw [add_block]; exact Nat.ne_of_lt (Nat.lt_of_lt_of_le (by have := World.block_lt_of_cell? _ _ hw138_0; first | rwa [add_block] at this | exact this) GW149.out)) | (dsimp only; exact Nat.ne_of_lt (Nat.lt_of_lt_of_le (by have := World.block_lt_of_cell? _ _ hw138_0; first | rwa [add_block] at this | exact this) GW149.out))) _).trans (((cell_far (p := ⟨gb149, _, none⟩) (by first | exact Nat.ne_of_lt (Nat.lt_of_lt_of_le (by have := World.block_lt_of_cell? _ _ hw138_0; first | rwa [add_block] at this | exact this) GW149.out) | (rw [add_block]; exact Nat.ne_of_lt (Nat.lt_of_lt_of_le (by have := World.block_lt_of_cell? _ _ hw138_0; first | rwa [add_block] at this | exact this) GW149.out)) | (show (Addr.add _ _).block ≠ _; rw [add_block]; exact Nat.ne_of_lt (Nat.lt_of_lt_of_le (by have := World.block_lt_of_cell? _ _ hw138_0; first | rwa [add_block] at this | exact this) GW149.out)) | (dsimp only; exact Nat.ne_of_lt (Nat.lt_of_lt_of_le (by have := World.block_lt_of_cell? _ _ hw138_0; first | rwa [add_block] at this | exact this) GW149.out))) _).trans (((cell_far (p := ⟨gb149, _, none⟩) (by first | exact Nat.ne_of_lt (Nat.lt_of_lt_of_le (by have := World.block_lt_of_cell? _ _ hw138_0; first | rwa [add_block] at this | exact this) GW149.out) | (rw [add_block]; exact Nat.ne_of_lt (Nat.lt_of_lt_of_le (by have := World.block_lt_of_cell? _ _ hw138_0; first | rwa [add_block] at this | exact this) GW149.out)) | (show (Addr.add _ _).block ≠ _; rw [add_block]; exact Nat.ne_of_lt (Nat.lt_of_lt_of_le (by have := World.block_lt_of_cell? _ _ hw138_0; first | rwa [add_block] at this | exact this) GW149.out)) | (dsimp only; exact Nat.ne_of_lt (Nat.lt_of_lt_of_le (by have := World.block_lt_of_cell? _ _ hw138_0; first | rwa [add_block] at this | exact this) GW149.out))) _).trans (hHeld.2.2.2.2.2.2.2.2.2))))))))))))))))))⟩ (fun hHeld => ?_)
                    clear hK K
                    refine pure_ (i := 11) (N := some 9) (v := ?_) (a' := ?_) #[true, true, true, true, true, true, true, true, true, true, true, true] rfl rfl (any_of HT_.out (by kernel_rfl)) (fun _ _ _ h => h) (Or.inl ⟨by rfl, ?_⟩) ?_ ?_
                    rotate_left
                    · intro w'
                      go_simp
                      with_reducible rfl
                    rotate_left
                    · simp only [Act.put, List.setIfInBounds_toArray, List.set_cons_zero, List.set_cons_succ, i64_w, i32_w]
                      rfl
                    refine done_ (done_of HT_.out (by kernel_rfl)) ?_
                    have hnb50 := NB149_137.out
                    have hnc50 := NB137_149.out
                    have hcz51_0 : w40.cell? ⟨gb149, 0, none⟩ = some (.int .i64 0) := (blk_cell BK149.out 0).trans rfl
                    have hcz51_1 : w40.cell? ⟨gb149, 1, none⟩ = some (.int .i64 0) := (blk_cell BK149.out 1).trans rfl
                    have hcz51_2 : w40.cell? ⟨gb149, 2, none⟩ = some (.int .i64 0) := (blk_cell BK149.out 2).trans rfl
                    have hcz51_3 : w40.cell? ⟨gb149, 3, none⟩ = some (.int .i64 0) := (blk_cell BK149.out 3).trans rfl
                    have hcz51_4 : w40.cell? ⟨gb149, 4, none⟩ = some (.int .i64 0) := (blk_cell BK149.out 4).trans rfl
                    have hcz51_5 : w40.cell? ⟨gb149, 5, none⟩ = some (.int .i64 0) := (blk_cell BK149.out 5).trans rfl
                    have hcz51_6 : w40.cell? ⟨gb149, 6, none⟩ = some (.int .i64 0) := (blk_cell BK149.out 6).trans rfl
                    have hcz51_7 : w40.cell? ⟨gb149, 7, none⟩ = some (.int .i64 0) := (blk_cell BK149.out 7).trans rfl
                    have hcz51_8 : w40.cell? ⟨gb149, 8, none⟩ = some (.int .i64 0) := (blk_cell BK149.out 8).trans rfl
                    have hfz51_0 := blk_frozen BK149.out 0
                    have hfz51_1 := blk_frozen BK149.out 1
                    have hfz51_2 := blk_frozen BK149.out 2
                    have hfz51_3 := blk_frozen BK149.out 3
                    have hfz51_4 := blk_frozen BK149.out 4
                    have hfz51_5 := blk_frozen BK149.out 5
                    have hfz51_6 := blk_frozen BK149.out 6
                    have hfz51_7 := blk_frozen BK149.out 7
                    have hfz51_8 := blk_frozen BK149.out 8
                    have hcz52_0 : w40.cell? ⟨gb137, 0, none⟩ = some (.int .i64 x138000_1) := (blk_cell BK137.out 0).trans rfl
                    have hcz52_1 : w40.cell? ⟨gb137, 1, none⟩ = some (.int .i64 x138001_1) := (blk_cell BK137.out 1).trans rfl
                    have hcz52_2 : w40.cell? ⟨gb137, 2, none⟩ = some (.int .i64 x138002_1) := (blk_cell BK137.out 2).trans rfl
                    have hcz52_3 : w40.cell? ⟨gb137, 3, none⟩ = some (.int .i64 x138003_1) := (blk_cell BK137.out 3).trans rfl
                    have hcz52_4 : w40.cell? ⟨gb137, 4, none⟩ = some (.int .i64 x138004_1) := (blk_cell BK137.out 4).trans rfl
                    have hcz52_5 : w40.cell? ⟨gb137, 5, none⟩ = some (.int .i64 x138005_1) := (blk_cell BK137.out 5).trans rfl
                    have hcz52_6 : w40.cell? ⟨gb137, 6, none⟩ = some (.int .i64 x138006_1) := (blk_cell BK137.out 6).trans rfl
                    have hcz52_7 : w40.cell? ⟨gb137, 7, none⟩ = some (.int .i64 x138007_1) := (blk_cell BK137.out 7).trans rfl
                    have hcz52_8 : w40.cell? ⟨gb137, 8, none⟩ = some (.int .i64 x138008_1) := (blk_cell BK137.out 8).trans rfl
                    have hfz52_0 := blk_frozen BK137.out 0
                    have hfz52_1 := blk_frozen BK137.out 1
                    have hfz52_2 := blk_frozen BK137.out 2
                    have hfz52_3 := blk_frozen BK137.out 3
                    have hfz52_4 := blk_frozen BK137.out 4
                    have hfz52_5 := blk_frozen BK137.out 5
                    have hfz52_6 := blk_frozen BK137.out 6
                    have hfz52_7 := blk_frozen BK137.out 7
                    have hfz52_8 := blk_frozen BK137.out 8
                    obtain ⟨i053, hi053, _, hsz53, _⟩ := info_parts info3
                    obtain ⟨hcut53, hA53, hC53⟩ := print_take_of (P := Try.prog) (Value.int .i64) 0 34 3 .i64 Try.underlying34 hi053 hsz53 (some ad138) c1 l1 (ji15) (of_decide_eq_true (by first | (with_reducible assumption) | assumption)) (of_decide_eq_true (by first | (with_reducible assumption) | assumption)) HC1.out
                    have HR150 := Aside0.mk (Kd.C_of_reads (h1 := fun _ => rfl) (hA53 _ (Kd.reads_of_C HR1.out)))
                    have HC150 := Aside0.mk hC53
                    clear hA53 hC53 hi053 hsz53
                    try go_wp2_with (first | ((with_reducible refine gate_callee (f := 17) rfl ?_); refine goesL_ (some 40) rfl rfl Try.func17 (by kernel_rfl) rfl #[.int .i64 a0, .slice (some ad138) (l1.take ((ji15) : Int).toNat).length c1] rfl (by (try simp only [List.map_toArray, List.map_cons, List.map_nil]); first | done | (rw [show (l1.take ((ji15) : Int).toNat).length = (ji15).toNat from (by rw [List.length_take]; have h_ : ((ji15) : Int) ≤ (l1.length : Int) := of_decide_eq_true (by first | (with_reducible assumption) | assumption); omega)] <;> rfl) | (simp only [hji15]; rfl) | rfl | (simp only [List.length_drop, List.length_take]; rfl)) ?_; (with_reducible refine (paternosterref10_Known.calls k1 a0 _ _ (l1.take ((ji15) : Int).toNat) t151 _ ?side1 ?side2 A18.out).mono ?_); (case side1 => exact Kd.C_below HR150.out (by repeat (first | (with_reducible first | exact HB.out | apply below_alloc | apply pw_below_drewN | apply below_drew1 | refine below_set ?_ GE137.out | refine below_set ?_ GE149.out) | exact HB.out))); (case side2 => exact HC150.out); rintro e w' ⟨rfl, ⟨nd, rfl⟩⟩; refine ⟨_, rfl, ?_⟩))
                    go_ret
                    exact ⟨by first | rfl | (simp [errW_none, errW_some] <;> rfl) | (simp only [← hji15]; first | rfl | (simp [errW_none, errW_some] <;> rfl)) | (simp [*, errW_none, errW_some] <;> rfl), by repeat (first | (with_reducible first | exact HB.out | apply below_alloc | apply pw_below_drewN | apply below_drew1 | refine below_set ?_ GE137.out | refine below_set ?_ GE149.out) | exact HB.out)⟩
                · rw [if_neg c17] at H
                  exact absurd H (by simp)
              · rw [if_neg c16] at H
                exact absurd H (by simp)
            · rw [if_neg c13] at H
              exact absurd H (by simp)
          · rw [if_neg c12] at H
            have c12b0 : decide (x7_1 < (l1.length : Int)) = false := decide_eq_false c12
            clear c12
            obtain rfl := Option.some.inj H
            go_wp2
            go_ret
            exact ⟨by first | rfl | (simp [errW_none, errW_some] <;> rfl) | (simp [*, errW_none, errW_some] <;> rfl), by repeat (first | (with_reducible first | exact HB.out | apply below_alloc | apply pw_below_drewN | apply below_drew1 | refine below_set ?_ GE137.out) | exact HB.out)⟩
  · replace c4 := Bool.eq_false_iff.mpr c4
    subst c4
    have H1 : (some false) = some r := by rw [if_neg (show ¬ (false = true) by decide)] at H; exact H
    clear H
    have H := H1
    clear H1
    obtain rfl := Option.some.inj H
    go_enter Try.func4, Try.ntmps4
    go_wp2_with (first | ((with_reducible refine gate_callee (f := 9) rfl ?_); refine goesL_ (some 10) rfl rfl Try.func9 (by kernel_rfl) rfl #[] rfl (by (try simp only [List.map_toArray, List.map_cons, List.map_nil]); first | done | rfl | (simp only [List.length_drop, List.length_take]; rfl)) ?_; (with_reducible refine (paternosterlaw10_awake.calls  false _ A3.out).mono ?_); rintro e w54 ⟨rfl, hb⟩; refine ⟨_, rfl, ?_⟩; have n0_ := Aside0.mk (below_step (by repeat (first | (with_reducible first | exact HB.out | apply below_alloc | apply pw_below_drewN | apply below_drew1) | exact HB.out)) hb); clear HB; have HB := n0_; clear n0_; (try clear hb); (try clear hb2); (try clear hk); (try clear hi)))
    go_ret
    exact ⟨by first | rfl | (simp [errW_none, errW_some] <;> rfl) | (simp [*, errW_none, errW_some] <;> rfl), by repeat (first | (with_reducible first | exact HB.out | apply below_alloc | apply pw_below_drewN | apply below_drew1) | exact HB.out)⟩

/-- THE ONE PURE STATEMENT of paternosterlaw10_FeedKnows: yours. -/
def paternosterlaw10_FeedKnows.Pure : Prop := ∀ (a0 : Int) (l1 : List Int), (Lit.int .i64 a0).wf = true → l1.length ≤ maxLen → l1.length * 8 ≤ 140737488351232 → (∀ x ∈ l1, (Lit.int .i64 x).wf = true) → ∃ k, paternosterlaw10_FeedKnows.f k a0 l1 = some true
theorem paternosterlaw10_FeedKnows.walk (P : paternosterlaw10_FeedKnows.Pure) (a0 : Int) (a1 : Option Addr) (len1 cap1 : Nat) (z1 : List Int) (w : World) (w0 : (Lit.int .i64 a0).wf = true) (w1 : (a1 = none ∧ len1 = 0 ∧ cap1 = 0 ∧ z1 = []) ∨ ∃ x, a1 = some x ∧ len1 ≤ cap1 ∧ cap1 ≤ maxLen ∧ z1.length = cap1 ∧ (∀ i, i < z1.length → w.cell? (x.add i) = some (.int .i64 (z1.getD i 0))) ∧ ∀ n ∈ z1, (Lit.int .i64 n).wf = true) (y1 : len1 * 8 ≤ 140737488351232) :
    Calls Try.prog 4 #[.int .i64 a0, .slice a1 len1 cap1] w fun e w' => e = .returned (.bool true) ∧ Below w.heap.size w w' := by
  obtain ⟨l1, rfl, hr1, hm1, hw1, hc1⟩ := ReadsInt.ofRowC w1
  obtain ⟨k, h⟩ := P a0 l1 w0 hm1 y1 hw1
  refine (paternosterlaw10_FeedKnows.calls k a0 _ _ l1 true w (Kd.C_of_reads (d := (0 : Int)) (h1 := fun _ => rfl) hr1) hc1 h).mono ?_
  rintro e w' ⟨rfl, hd⟩
  exact ⟨rfl, hd⟩

end Go.Proofs.Ytangjedacimmcaa.X
