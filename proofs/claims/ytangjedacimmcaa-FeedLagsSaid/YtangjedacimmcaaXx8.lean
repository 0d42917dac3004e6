-- Written by a program of this session (wip/xprint/xprint.py runs the kit's print with hand-proved externs).
import Derived.Test.YtangjedacimmcaaXx0
import Derived.Test.YtangjedacimmcaaFeedAwake
import Derived.Test.YtangjedacimmcaaFeedExt
namespace Go.Proofs.Ytangjedacimmcaa.X
open Go.RowKit Go.Proofs.YtangjedacimmcaaW.PrintWords Go.Proofs.YtangjedacimmcaaW.PrintLast Go.Proofs.YtangjedacimmcaaW.PrintMore
attribute [local go_sem] max2_int min2_int max_two min_two max_three min_three max_four min_four   -- for this text's walks alone
set_option linter.unusedVariables false
set_option linter.unusedSimpArgs false

/-! ### paternosterlaw10_FeedLags: function 6 -/
mutual
def paternosterlaw10_FeedLags.l0 : Nat → List Int → Int → Int → Int → Int → Int → Int → Int → Int → Int → Int → Int → Int → Option (Bool)
  | 0, _, _, _, _, _, _, _, _, _, _, _, _, _ => none
  | k + 1, x1, x2, x8, x10, x178000, x178001, x178002, x178003, x178004, x178005, x178006, x178007, x178008 => if x10 < (x1.length : Int) then (if 0 ≤ x10 then ((feed_Known_Tell.f x178000 x178001 x178002 x178003 x178004 x178005 x178006 x178007 x178008 (wrap64 (rd x1 x10))).bind fun bt179 => (paternosterlaw10_FeedLags.l0 k x1 x2 x8 (wrap64 (x10 + 1)) bt179.1 bt179.2.1 bt179.2.2.1 bt179.2.2.2.1 bt179.2.2.2.2.1 bt179.2.2.2.2.2.1 bt179.2.2.2.2.2.2.1 bt179.2.2.2.2.2.2.2.1 bt179.2.2.2.2.2.2.2.2.1)) else (none)) else (paternosterlaw10_FeedLags.l1 k x1 x2 x8 0 x178000 x178001 x178002 x178003 x178004 x178005 x178006 x178007 x178008)
def paternosterlaw10_FeedLags.l1 : Nat → List Int → Int → Int → Int → Int → Int → Int → Int → Int → Int → Int → Int → Int → Option (Bool)
  | 0, _, _, _, _, _, _, _, _, _, _, _, _, _ => none
  | k + 1, x1, x2, x8, x13, x178000, x178001, x178002, x178003, x178004, x178005, x178006, x178007, x178008 => if x13 < 20 then ((feed_Known_Tell.f x178000 x178001 x178002 x178003 x178004 x178005 x178006 x178007 x178008 (wrap64 (x2))).bind fun bt190 => (if x13 ≥ x8 then (paternosterlaw10_FeedLags.j2 k x1 x2 x8 x13 bt190.2.2.2.2.2.2.2.2.2 (bt190.2.2.2.2.2.2.2.2.2 != (wrap64 (x2))) bt190.1 bt190.2.1 bt190.2.2.1 bt190.2.2.2.1 bt190.2.2.2.2.1 bt190.2.2.2.2.2.1 bt190.2.2.2.2.2.2.1 bt190.2.2.2.2.2.2.2.1 bt190.2.2.2.2.2.2.2.2.1) else (paternosterlaw10_FeedLags.j2 k x1 x2 x8 x13 bt190.2.2.2.2.2.2.2.2.2 false bt190.1 bt190.2.1 bt190.2.2.1 bt190.2.2.2.1 bt190.2.2.2.2.1 bt190.2.2.2.2.2.1 bt190.2.2.2.2.2.2.1 bt190.2.2.2.2.2.2.2.1 bt190.2.2.2.2.2.2.2.2.1))) else (some true)
def paternosterlaw10_FeedLags.j2 : Nat → List Int → Int → Int → Int → Int → Bool → Int → Int → Int → Int → Int → Int → Int → Int → Int → Option (Bool)
  | 0, _, _, _, _, _, _, _, _, _, _, _, _, _, _, _ => none
  | k + 1, x1, x2, x8, x13, x15, x65, x178000, x178001, x178002, x178003, x178004, x178005, x178006, x178007, x178008 => if x65 = true then (some false) else (if x13 < x8 then (if (wrap64 ((wrap64 ((x1.length : Int) + x13)) - x8)) ≥ 0 then (if 0 ≤ (wrap64 ((wrap64 ((x1.length : Int) + x13)) - x8)) then (if (wrap64 ((wrap64 ((x1.length : Int) + x13)) - x8)) < (x1.length : Int) then (if x15 = (wrap64 (rd x1 (wrap64 ((wrap64 ((x1.length : Int) + x13)) - x8)))) then (if (wrap64 ((wrap64 ((x1.length : Int) + x13)) - x8)) < 0 then (if x15 = 0 then (paternosterlaw10_FeedLags.l1 k x1 x2 x8 (wrap64 (x13 + 1)) x178000 x178001 x178002 x178003 x178004 x178005 x178006 x178007 x178008) else (some false)) else (paternosterlaw10_FeedLags.l1 k x1 x2 x8 (wrap64 (x13 + 1)) x178000 x178001 x178002 x178003 x178004 x178005 x178006 x178007 x178008)) else (some false)) else (none)) else (none)) else (if (wrap64 ((wrap64 ((x1.length : Int) + x13)) - x8)) < 0 then (if x15 = 0 then (paternosterlaw10_FeedLags.l1 k x1 x2 x8 (wrap64 (x13 + 1)) x178000 x178001 x178002 x178003 x178004 x178005 x178006 x178007 x178008) else (some false)) else (paternosterlaw10_FeedLags.l1 k x1 x2 x8 (wrap64 (x13 + 1)) x178000 x178001 x178002 x178003 x178004 x178005 x178006 x178007 x178008))) else (if (wrap64 ((wrap64 ((x1.length : Int) + x13)) - x8)) < 0 then (if x15 = 0 then (paternosterlaw10_FeedLags.l1 k x1 x2 x8 (wrap64 (x13 + 1)) x178000 x178001 x178002 x178003 x178004 x178005 x178006 x178007 x178008) else (some false)) else (paternosterlaw10_FeedLags.l1 k x1 x2 x8 (wrap64 (x13 + 1)) x178000 x178001 x178002 x178003 x178004 x178005 x178006 x178007 x178008)))
end
def paternosterlaw10_FeedLags.f (k : Nat) (a0 : Int) (l1 : List Int) (a2 : Int) : Option (Bool) := (paternosterlaw10_awake.f).bind fun t167 => (if t167 = true then (if (l1.length : Int) > 60 then (some true) else ((feed_New.f (wrap64 (Int.tmod a0 9))).bind fun bt168 => (paternosterlaw10_FeedLags.l0 k l1 a2 (wrap64 (Int.tmod a0 9)) 0 bt168.1 bt168.2.1 bt168.2.2.1 bt168.2.2.2.1 bt168.2.2.2.2.1 bt168.2.2.2.2.2.1 bt168.2.2.2.2.2.2.1 bt168.2.2.2.2.2.2.2.1 bt168.2.2.2.2.2.2.2.2))) else (some false))
theorem paternosterlaw10_FeedLags.mono_l : ∀ k, (∀ y0 y1 y2 y3 y4 y5 y6 y7 y8 y9 y10 y11 y12, LeO (paternosterlaw10_FeedLags.l0 k y0 y1 y2 y3 y4 y5 y6 y7 y8 y9 y10 y11 y12) (paternosterlaw10_FeedLags.l0 (k + 1) y0 y1 y2 y3 y4 y5 y6 y7 y8 y9 y10 y11 y12)) ∧ (∀ y0 y1 y2 y3 y4 y5 y6 y7 y8 y9 y10 y11 y12, LeO (paternosterlaw10_FeedLags.l1 k y0 y1 y2 y3 y4 y5 y6 y7 y8 y9 y10 y11 y12) (paternosterlaw10_FeedLags.l1 (k + 1) y0 y1 y2 y3 y4 y5 y6 y7 y8 y9 y10 y11 y12)) ∧ (∀ y0 y1 y2 y3 y4 y5 y6 y7 y8 y9 y10 y11 y12 y13 y14, LeO (paternosterlaw10_FeedLags.j2 k y0 y1 y2 y3 y4 y5 y6 y7 y8 y9 y10 y11 y12 y13 y14) (paternosterlaw10_FeedLags.j2 (k + 1) y0 y1 y2 y3 y4 y5 y6 y7 y8 y9 y10 y11 y12 y13 y14))
  | 0 => ⟨fun _ _ _ _ _ _ _ _ _ _ _ _ _ r h => by simp [paternosterlaw10_FeedLags.l0] at h, fun _ _ _ _ _ _ _ _ _ _ _ _ _ r h => by simp [paternosterlaw10_FeedLags.l1] at h, fun _ _ _ _ _ _ _ _ _ _ _ _ _ _ _ r h => by simp [paternosterlaw10_FeedLags.j2] at h⟩
  | k + 1 => by
    obtain ⟨ih0, ih1, ih2⟩ := paternosterlaw10_FeedLags.mono_l k
    refine ⟨?_, ?_, ?_⟩
    · intro y0 y1 y2 y3 y4 y5 y6 y7 y8 y9 y10 y11 y12
      unfold paternosterlaw10_FeedLags.l0
      repeat' first
      | (with_reducible exact ih0 _ _ _ _ _ _ _ _ _ _ _ _ _)
      | (with_reducible exact ih1 _ _ _ _ _ _ _ _ _ _ _ _ _)
      | (with_reducible exact ih2 _ _ _ _ _ _ _ _ _ _ _ _ _ _ _)
      | (with_reducible exact LeO.refl _)
      | (with_reducible exact LeO.none _)
      | (with_reducible refine LeO.ite ?_ ?_)
      | (with_reducible refine LeO.bind ?_ (fun _ => ?_))
      | exact ih0 _ _ _ _ _ _ _ _ _ _ _ _ _
      | exact ih1 _ _ _ _ _ _ _ _ _ _ _ _ _
      | exact ih2 _ _ _ _ _ _ _ _ _ _ _ _ _ _ _
      | exact LeO.none _
      | refine LeO.ite ?_ ?_
      | refine LeO.bind ?_ (fun _ => ?_)
    · intro y0 y1 y2 y3 y4 y5 y6 y7 y8 y9 y10 y11 y12
      unfold paternosterlaw10_FeedLags.l1
      repeat' first
      | (with_reducible exact ih0 _ _ _ _ _ _ _ _ _ _ _ _ _)
      | (with_reducible exact ih1 _ _ _ _ _ _ _ _ _ _ _ _ _)
      | (with_reducible exact ih2 _ _ _ _ _ _ _ _ _ _ _ _ _ _ _)
      | (with_reducible exact LeO.refl _)
      | (with_reducible exact LeO.none _)
      | (with_reducible refine LeO.ite ?_ ?_)
      | (with_reducible refine LeO.bind ?_ (fun _ => ?_))
      | exact ih0 _ _ _ _ _ _ _ _ _ _ _ _ _
      | exact ih1 _ _ _ _ _ _ _ _ _ _ _ _ _
      | exact ih2 _ _ _ _ _ _ _ _ _ _ _ _ _ _ _
      | exact LeO.none _
      | refine LeO.ite ?_ ?_
      | refine LeO.bind ?_ (fun _ => ?_)
    · intro y0 y1 y2 y3 y4 y5 y6 y7 y8 y9 y10 y11 y12 y13 y14
      unfold paternosterlaw10_FeedLags.j2
      repeat' first
      | (with_reducible exact ih0 _ _ _ _ _ _ _ _ _ _ _ _ _)
      | (with_reducible exact ih1 _ _ _ _ _ _ _ _ _ _ _ _ _)
      | (with_reducible exact ih2 _ _ _ _ _ _ _ _ _ _ _ _ _ _ _)
      | (with_reducible exact LeO.refl _)
      | (with_reducible exact LeO.none _)
      | (with_reducible refine LeO.ite ?_ ?_)
      | (with_reducible refine LeO.bind ?_ (fun _ => ?_))
      | exact ih0 _ _ _ _ _ _ _ _ _ _ _ _ _
      | exact ih1 _ _ _ _ _ _ _ _ _ _ _ _ _
      | exact ih2 _ _ _ _ _ _ _ _ _ _ _ _ _ _ _
      | exact LeO.none _
      | refine LeO.ite ?_ ?_
      | refine LeO.bind ?_ (fun _ => ?_)
theorem paternosterlaw10_FeedLags.mono : ∀ a0 a1 a2 k, LeO (paternosterlaw10_FeedLags.f k a0 a1 a2) (paternosterlaw10_FeedLags.f (k + 1) a0 a1 a2) := by
  intro a0 a1 a2 k
  obtain ⟨ih0, ih1, ih2⟩ := paternosterlaw10_FeedLags.mono_l k
  unfold paternosterlaw10_FeedLags.f
  repeat' first
      | (with_reducible exact ih0 _ _ _ _ _ _ _ _ _ _ _ _ _)
      | (with_reducible exact ih1 _ _ _ _ _ _ _ _ _ _ _ _ _)
      | (with_reducible exact ih2 _ _ _ _ _ _ _ _ _ _ _ _ _ _ _)
      | (with_reducible exact LeO.refl _)
      | (with_reducible exact LeO.none _)
      | (with_reducible refine LeO.ite ?_ ?_)
      | (with_reducible refine LeO.bind ?_ (fun _ => ?_))
      | exact ih0 _ _ _ _ _ _ _ _ _ _ _ _ _
      | exact ih1 _ _ _ _ _ _ _ _ _ _ _ _ _
      | exact ih2 _ _ _ _ _ _ _ _ _ _ _ _ _ _ _
      | exact LeO.none _
      | refine LeO.ite ?_ ?_
      | refine LeO.bind ?_ (fun _ => ?_)
def paternosterlaw10_FeedLags.T11 : Bool × List (List Nat × List Nat) := (true, [([], []), ([], []), ([], []), ([1, 2], [1, 2]), ([3], [3]), ([4], [4]), ([0, 5], [0, 5]), ([6], [6]), ([7], [7]), ([7], [7]), ([], []), ([10, 8, 6, 0, 1, 2, 3, 4, 5, 6, 7, 8, 10], [8, 10]), ([9, 11, 0, 1, 2, 3, 4, 5, 6, 7, 8, 9, 10, 11], [9])])
def paternosterlaw10_FeedLags.B11 : List Nat := [0, 0, 0, 6, 14, 30, 63, 127, 255, 255, 0, 1535, 4095]
theorem paternosterlaw10_FeedLags.tab11 : rtab .any (opsOf Try.f6 11) = paternosterlaw10_FeedLags.T11 := by kernel_rfl
theorem paternosterlaw10_FeedLags.bits11 : waitsOk paternosterlaw10_FeedLags.T11.2 paternosterlaw10_FeedLags.B11 = true := by kernel_rfl
set_option maxHeartbeats 8000000 in
set_option maxRecDepth 100000 in
theorem paternosterlaw10_FeedLags.calls (k : Nat) (a0 : Int) (A1 : Option Addr) (c1 : Nat) (l1 : List Int) (a2 : Int) (r : Bool) (w : World) (hr1 : Kd.C (Kd.int .u16) w A1 l1.length l1) (hc1 : l1.length ≤ c1) (h : paternosterlaw10_FeedLags.f k a0 l1 a2 = some r) :
    Calls Try.prog 6 #[.int .u8 a0, .slice A1 l1.length c1, .int .u16 a2] w fun e w' => e = .returned (.bool r) ∧ Below w.heap.size w w' := by
  have hu37 := Try.underlying37
  have HR1 := Aside0.mk hr1
  have HC1 := Aside0.mk hc1
  clear hr1 hc1
  have HB := Aside0.mk (Below.refl w.heap.size w)
  have H : ((paternosterlaw10_awake.f).bind fun t167 => (if t167 = true then (if (l1.length : Int) > 60 then (some true) else ((feed_New.f (wrap64 (Int.tmod a0 9))).bind fun bt168 => (paternosterlaw10_FeedLags.l0 k l1 a2 (wrap64 (Int.tmod a0 9)) 0 bt168.1 bt168.2.1 bt168.2.2.1 bt168.2.2.2.1 bt168.2.2.2.2.1 bt168.2.2.2.2.2.1 bt168.2.2.2.2.2.2.1 bt168.2.2.2.2.2.2.2.1 bt168.2.2.2.2.2.2.2.2))) else (some false))) = some r := h
  clear h
  replace H := Option.bind_eq_some_iff.mp H
  obtain ⟨t167, A40, H⟩ := H
  replace H : (if t167 = true then (if (l1.length : Int) > 60 then (some true) else ((feed_New.f (wrap64 (Int.tmod a0 9))).bind fun bt168 => (paternosterlaw10_FeedLags.l0 k l1 a2 (wrap64 (Int.tmod a0 9)) 0 bt168.1 bt168.2.1 bt168.2.2.1 bt168.2.2.2.1 bt168.2.2.2.2.1 bt168.2.2.2.2.2.1 bt168.2.2.2.2.2.2.1 bt168.2.2.2.2.2.2.2.1 bt168.2.2.2.2.2.2.2.2))) else (some false)) = some r := H
  have A4 := Aside0.mk A40
  clear A40
  by_cases c5 : t167 = true
  · subst c5
    have H1 : (if (l1.length : Int) > 60 then (some true) else ((feed_New.f (wrap64 (Int.tmod a0 9))).bind fun bt168 => (paternosterlaw10_FeedLags.l0 k l1 a2 (wrap64 (Int.tmod a0 9)) 0 bt168.1 bt168.2.1 bt168.2.2.1 bt168.2.2.2.1 bt168.2.2.2.2.1 bt168.2.2.2.2.2.1 bt168.2.2.2.2.2.2.1 bt168.2.2.2.2.2.2.2.1 bt168.2.2.2.2.2.2.2.2))) = some r := by rw [if_pos rfl] at H; exact H
    clear H
    have H := H1
    clear H1
    by_cases c6 : (l1.length : Int) > 60
    · rw [if_pos c6] at H
      have c6b0 : decide (60 < (l1.length : Int)) = true := decide_eq_true c6
      have c6b1 : decide (60 < l1.length) = true := decide_eq_true (by omega)
      clear c6
      obtain rfl := Option.some.inj H
      go_enter Try.func6, Try.ntmps6
      go_wp2_with (first | ((with_reducible refine gate_callee (f := 9) rfl ?_); refine goesL_ (some 17) rfl rfl Try.func9 (by kernel_rfl) rfl #[] rfl (by (try simp only [List.map_toArray, List.map_cons, List.map_nil]); first | done | rfl | (simp only [List.length_drop, List.length_take]; rfl)) ?_; (with_reducible refine (paternosterlaw10_awake.calls  true _ A4.out).mono ?_); rintro e w7 ⟨rfl, hb⟩; refine ⟨_, rfl, ?_⟩; have n0_ := Aside0.mk (below_step (by repeat (first | (with_reducible first | exact HB.out | apply below_alloc | apply pw_below_drewN | apply below_drew1) | exact HB.out)) hb); clear HB; have HB := n0_; clear n0_; (try clear hb); (try clear hb2); (try clear hk); (try clear hi)))
      go_ret
      exact ⟨by first | rfl | (simp [errW_none, errW_some] <;> rfl) | (simp [*, errW_none, errW_some] <;> rfl), by repeat (first | (with_reducible first | exact HB.out | apply below_alloc | apply pw_below_drewN | apply below_drew1) | exact HB.out)⟩
    · rw [if_neg c6] at H
      have c6b0 : decide (60 < (l1.length : Int)) = false := decide_eq_false c6
      have c6b1 : decide (60 < l1.length) = false := decide_eq_false (by omega)
      clear c6
      replace H := Option.bind_eq_some_iff.mp H
      obtain ⟨⟨t168, t169, t170, t171, t172, t173, t174, t175, t176⟩, A80, H⟩ := H
      replace H : (paternosterlaw10_FeedLags.l0 k l1 a2 (wrap64 (Int.tmod a0 9)) 0 t168 t169 t170 t171 t172 t173 t174 t175 t176) = some r := H
      have A8 := Aside0.mk A80
      clear A80
      have H' := Aside0.mk H
      clear H
      go_enter Try.func6, Try.ntmps6
      go_wp2_with (first | ((with_reducible refine gate_callee (f := 9) rfl ?_); refine goesL_ (some 17) rfl rfl Try.func9 (by kernel_rfl) rfl #[] rfl (by (try simp only [List.map_toArray, List.map_cons, List.map_nil]); first | done | rfl | (simp only [List.length_drop, List.length_take]; rfl)) ?_; (with_reducible refine (paternosterlaw10_awake.calls  true _ A4.out).mono ?_); rintro e w9 ⟨rfl, hb⟩; refine ⟨_, rfl, ?_⟩; have n0_ := Aside0.mk (below_step (by repeat (first | (with_reducible first | exact HB.out | apply below_alloc | apply pw_below_drewN | apply below_drew1) | exact HB.out)) hb); clear HB; have HB := n0_; clear n0_; (try clear hb); (try clear hb2); (try clear hk); (try clear hi)) | ((with_reducible refine gate_callee (f := 15) rfl ?_); refine goesL_ (some 27) rfl rfl Try.func15 (by kernel_rfl) rfl #[.int .i64 (wrap64 (Int.tmod a0 9))] rfl (by (try simp only [List.map_toArray, List.map_cons, List.map_nil]); first | done | rfl | (simp only [List.length_drop, List.length_take]; rfl)) ?_; (with_reducible refine (feed_New.calls (wrap64 (Int.tmod a0 9)) t168 t169 t170 t171 t172 t173 t174 t175 t176 _ A8.out).mono ?_); rintro e w10 ⟨rfl, hb⟩; refine ⟨_, rfl, ?_⟩; have n0_ := Aside0.mk (below_step (by repeat (first | (with_reducible first | exact HB.out | apply below_alloc | apply pw_below_drewN | apply below_drew1) | exact HB.out)) hb); clear HB; have HB := n0_; clear n0_; (try clear hb); (try clear hb2); (try clear hk); (try clear hi)) | ((with_reducible refine gate_dst (N := 9) rfl ?_); refine box_event ?hg (N := 9) ?hd (cs := #[.int .i64 0, .int .i64 0, .int .i64 0, .int .i64 0, .int .i64 0, .int .i64 0, .int .i64 0, .int .i64 0, .int .i64 0]) (t := 37) ?hr ?_; (case hd => rfl); (case hg => rfl); (case hr => first | (go_simp; done) | (go_simp; rfl)); intro gb177 hg w11 hbox hb; have n0_ := Aside0.mk (below_step (by repeat (first | (with_reducible first | exact HB.out | apply below_alloc | apply pw_below_drewN | apply below_drew1) | exact HB.out)) hb); have n1_ := Aside0.mk (hbox); have n2_ := Aside0.mk ((by rw [hg]; exact (below_size (by repeat (first | (with_reducible first | exact HB.out | apply below_alloc | apply pw_below_drewN | apply below_drew1) | exact HB.out))) : w.heap.size ≤ gb177)); have n3_ := Aside0.mk ((by rw [hg]; exact (below_size (by repeat (first | (with_reducible first | exact HB.out | apply below_alloc | apply pw_below_drewN | apply below_drew1) | exact HB.out))) : w.heap.size ≤ gb177)); clear HB; have HB := n0_; have BK177 := n1_; have GW177 := n2_; have GE177 := n3_; clear n0_ n1_ n2_ n3_; clear hb hbox hg; have hcz12_0 : w11.cell? ⟨gb177, 0, none⟩ = some (.int .i64 0) := (blk_cell BK177.out 0).trans rfl; have hcz12_1 : w11.cell? ⟨gb177, 1, none⟩ = some (.int .i64 0) := (blk_cell BK177.out 1).trans rfl; have hcz12_2 : w11.cell? ⟨gb177, 2, none⟩ = some (.int .i64 0) := (blk_cell BK177.out 2).trans rfl; have hcz12_3 : w11.cell? ⟨gb177, 3, none⟩ = some (.int .i64 0) := (blk_cell BK177.out 3).trans rfl; have hcz12_4 : w11.cell? ⟨gb177, 4, none⟩ = some (.int .i64 0) := (blk_cell BK177.out 4).trans rfl; have hcz12_5 : w11.cell? ⟨gb177, 5, none⟩ = some (.int .i64 0) := (blk_cell BK177.out 5).trans rfl; have hcz12_6 : w11.cell? ⟨gb177, 6, none⟩ = some (.int .i64 0) := (blk_cell BK177.out 6).trans rfl; have hcz12_7 : w11.cell? ⟨gb177, 7, none⟩ = some (.int .i64 0) := (blk_cell BK177.out 7).trans rfl; have hcz12_8 : w11.cell? ⟨gb177, 8, none⟩ = some (.int .i64 0) := (blk_cell BK177.out 8).trans rfl; have hfz12_0 := blk_frozen BK177.out 0; have hfz12_1 := blk_frozen BK177.out 1; have hfz12_2 := blk_frozen BK177.out 2; have hfz12_3 := blk_frozen BK177.out 3; have hfz12_4 := blk_frozen BK177.out 4; have hfz12_5 := blk_frozen BK177.out 5; have hfz12_6 := blk_frozen BK177.out 6; have hfz12_7 := blk_frozen BK177.out 7; have hfz12_8 := blk_frozen BK177.out 8))
      go_loopg [10] k (fun kq v10 w' => ∃ (x10_1 : Int) (x178000_1 : Int) (x178001_1 : Int) (x178002_1 : Int) (x178003_1 : Int) (x178004_1 : Int) (x178005_1 : Int) (x178006_1 : Int) (x178007_1 : Int) (x178008_1 : Int), v10 = .int .i64 x10_1 ∧ Aside0 (paternosterlaw10_FeedLags.l0 kq l1 a2 (wrap64 (Int.tmod a0 9)) x10_1 x178000_1 x178001_1 x178002_1 x178003_1 x178004_1 x178005_1 x178006_1 x178007_1 x178008_1 = some r) ∧ Aside0 (kq ≤ k) ∧ Aside0 (w'.heap[gb177]? = some (.cells #[.int .i64 x178000_1, .int .i64 x178001_1, .int .i64 x178002_1, .int .i64 x178003_1, .int .i64 x178004_1, .int .i64 x178005_1, .int .i64 x178006_1, .int .i64 x178007_1, .int .i64 x178008_1] 37 (0, 0))) ∧ Aside0 (Below w.heap.size w w'))
      case atStart => exact ⟨(0), (t168), (t169), (t170), (t171), (t172), (t173), (t174), (t175), (t176), (by first | rfl | (simp; done) | (simp [*]; done)), H', ⟨Nat.le_refl _⟩, ⟨by (with_reducible repeat (first | refine blk_drewN ?_ _ | refine blk_drew ?_ | refine blk_alloc ?_ _)); refine blk_put (cs := #[.int .i64 t168, .int .i64 t169, .int .i64 t170, .int .i64 t171, .int .i64 t172, .int .i64 t173, .int .i64 t174, .int .i64 t175, .int .i64 0]) ?_ 8 _ rfl; (with_reducible repeat (first | refine blk_drewN ?_ _ | refine blk_drew ?_ | refine blk_alloc ?_ _)); refine blk_put (cs := #[.int .i64 t168, .int .i64 t169, .int .i64 t170, .int .i64 t171, .int .i64 t172, .int .i64 t173, .int .i64 t174, .int .i64 0, .int .i64 0]) ?_ 7 _ rfl; (with_reducible repeat (first | refine blk_drewN ?_ _ | refine blk_drew ?_ | refine blk_alloc ?_ _)); refine blk_put (cs := #[.int .i64 t168, .int .i64 t169, .int .i64 t170, .int .i64 t171, .int .i64 t172, .int .i64 t173, .int .i64 0, .int .i64 0, .int .i64 0]) ?_ 6 _ rfl; (with_reducible repeat (first | refine blk_drewN ?_ _ | refine blk_drew ?_ | refine blk_alloc ?_ _)); refine blk_put (cs := #[.int .i64 t168, .int .i64 t169, .int .i64 t170, .int .i64 t171, .int .i64 t172, .int .i64 0, .int .i64 0, .int .i64 0, .int .i64 0]) ?_ 5 _ rfl; (with_reducible repeat (first | refine blk_drewN ?_ _ | refine blk_drew ?_ | refine blk_alloc ?_ _)); refine blk_put (cs := #[.int .i64 t168, .int .i64 t169, .int .i64 t170, .int .i64 t171, .int .i64 0, .int .i64 0, .int .i64 0, .int .i64 0, .int .i64 0]) ?_ 4 _ rfl; (with_reducible repeat (first | refine blk_drewN ?_ _ | refine blk_drew ?_ | refine blk_alloc ?_ _)); refine blk_put (cs := #[.int .i64 t168, .int .i64 t169, .int .i64 t170, .int .i64 0, .int .i64 0, .int .i64 0, .int .i64 0, .int .i64 0, .int .i64 0]) ?_ 3 _ rfl; (with_reducible repeat (first | refine blk_drewN ?_ _ | refine blk_drew ?_ | refine blk_alloc ?_ _)); refine blk_put (cs := #[.int .i64 t168, .int .i64 t169, .int .i64 0, .int .i64 0, .int .i64 0, .int .i64 0, .int .i64 0, .int .i64 0, .int .i64 0]) ?_ 2 _ rfl; (with_reducible repeat (first | refine blk_drewN ?_ _ | refine blk_drew ?_ | refine blk_alloc ?_ _)); refine blk_put (cs := #[.int .i64 t168, .int .i64 0, .int .i64 0, .int .i64 0, .int .i64 0, .int .i64 0, .int .i64 0, .int .i64 0, .int .i64 0]) ?_ 1 _ rfl; (with_reducible repeat (first | refine blk_drewN ?_ _ | refine blk_drew ?_ | refine blk_alloc ?_ _)); refine blk_put (cs := #[.int .i64 0, .int .i64 0, .int .i64 0, .int .i64 0, .int .i64 0, .int .i64 0, .int .i64 0, .int .i64 0, .int .i64 0]) ?_ 0 _ rfl; (with_reducible repeat (first | refine blk_drewN ?_ _ | refine blk_drew ?_ | refine blk_alloc ?_ _)); exact BK177.out⟩, ⟨by repeat (first | (with_reducible first | exact HB.out | apply below_alloc | apply pw_below_drewN | apply below_drew1 | refine below_set ?_ GE177.out) | exact HB.out)⟩⟩
      case round =>
        clear H'
        try clear c1
        try clear p2
        try clear c5
        try clear c6
        try clear c6b0
        try clear c6b1
        try clear p6
        try clear c9
        try clear hcz12_0
        try clear hcz12_1
        try clear hcz12_2
        try clear hcz12_3
        try clear hcz12_4
        try clear hcz12_5
        try clear hcz12_6
        try clear hcz12_7
        try clear hcz12_8
        try clear hfz12_0
        try clear hfz12_1
        try clear hfz12_2
        try clear hfz12_3
        try clear hfz12_4
        try clear hfz12_5
        try clear hfz12_6
        try clear hfz12_7
        try clear hfz12_8
        obtain ⟨x10_1, x178000_1, x178001_1, x178002_1, x178003_1, x178004_1, x178005_1, x178006_1, x178007_1, x178008_1, rfl, HA, HK1, BK177, HB⟩ := hrel
        cases gk with
        | zero => exact absurd HA.out (by simp [paternosterlaw10_FeedLags.l0])
        | succ k1 =>
          have H := HA.out
          clear HA
          simp only [paternosterlaw10_FeedLags.l0] at H
          by_cases c13 : x10_1 < (l1.length : Int)
          · rw [if_pos c13] at H
            have c13b0 : decide (x10_1 < (l1.length : Int)) = true := decide_eq_true c13
            clear c13
            by_cases c14 : 0 ≤ x10_1
            · rw [if_pos c14] at H
              have c14b0 : decide (0 ≤ x10_1) = true := decide_eq_true c14
              clear c14
              replace H := Option.bind_eq_some_iff.mp H
              obtain ⟨⟨t179, t180, t181, t182, t183, t184, t185, t186, t187, t188⟩, A150, H⟩ := H
              replace H : (paternosterlaw10_FeedLags.l0 k1 l1 a2 (wrap64 (Int.tmod a0 9)) (wrap64 (x10_1 + 1)) t179 t180 t181 t182 t183 t184 t185 t186 t187) = some r := H
              have A15 := Aside0.mk A150
              clear A150
              have H' := Aside0.mk H
              clear H
              try go_wp2
              have n0_ := Aside0.mk (blk_drew BK177.out)
              have n1_ := Aside0.mk (below_drew1 HB.out)
              clear BK177
              clear HB
              have BK177 := n0_
              have HB := n1_
              clear n0_ n1_
              have p178 : 0 ≤ (x10_1 : Int) := of_decide_eq_true (by first | (with_reducible assumption) | assumption)
              have q178 : x10_1 < (l1.length : Int) := of_decide_eq_true (by first | (with_reducible assumption) | assumption)
              obtain ⟨ad178, e178, hx178_0⟩ := Kd.at_int HR1.out x10_1 p178 q178
              have hw178_0 := hx178_0
              cases e178
              replace hx178_0 := (HB.out.cell (World.block_lt_of_cell? w _ hx178_0)).trans hx178_0
              replace p178 := eq_true p178
              replace q178 := eq_true q178
              refine start_ (n := 13) (S := fun w' => w'.cell? ⟨gb177, 0, none⟩ = some (.int .i64 x178000_1) ∧ w'.cell? ⟨gb177, 1, none⟩ = some (.int .i64 x178001_1) ∧ w'.cell? ⟨gb177, 2, none⟩ = some (.int .i64 x178002_1) ∧ w'.cell? ⟨gb177, 3, none⟩ = some (.int .i64 x178003_1) ∧ w'.cell? ⟨gb177, 4, none⟩ = some (.int .i64 x178004_1) ∧ w'.cell? ⟨gb177, 5, none⟩ = some (.int .i64 x178005_1) ∧ w'.cell? ⟨gb177, 6, none⟩ = some (.int .i64 x178006_1) ∧ w'.cell? ⟨gb177, 7, none⟩ = some (.int .i64 x178007_1) ∧ w'.cell? ⟨gb177, 8, none⟩ = some (.int .i64 x178008_1) ∧ w'.cell? (ad178.add (x10_1).toNat) = some (.int .u16 (rd l1 x10_1))) (ds := []) #[false, false, false, false, false, false, false, false, false, false, false, false, false] (by kernel_rfl) rfl rfl ⟨(blk_cell BK177.out 0).trans rfl, (blk_cell BK177.out 1).trans rfl, (blk_cell BK177.out 2).trans rfl, (blk_cell BK177.out 3).trans rfl, (blk_cell BK177.out 4).trans rfl, (blk_cell BK177.out 5).trans rfl, (blk_cell BK177.out 6).trans rfl, (blk_cell BK177.out 7).trans rfl, (blk_cell BK177.out 8).trans rfl, ((HB.out.cell (World.block_lt_of_cell? w _ hw178_0)).trans hw178_0)⟩ (fun hHeld => ?_); refine with_tabW paternosterlaw10_FeedLags.tab11 paternosterlaw10_FeedLags.bits11 (fun HT_ HW_ => ?_)
              generalize wr.drew = w16 at BK177 HB hx178_0 hHeld ⊢
              refine pure_ (i := 1) (N := some 36) (v := ?_) (a' := ?_) #[false, true, false, false, false, false, false, false, false, false, false, false, false] rfl rfl (any_of HT_.out (by kernel_rfl)) (fun _ _ _ h => h) (Or.inl ⟨by rfl, ?_⟩) ?_ ?_
              rotate_left
              · intro w'
                go_simp
                with_reducible rfl
              rotate_left
              · simp only [Act.put, List.setIfInBounds_toArray, List.set_cons_zero, List.set_cons_succ, i64_w, i32_w]
                rfl
              refine pure_ (i := 2) (N := some 37) (v := ?_) (a' := ?_) #[false, true, true, false, false, false, false, false, false, false, false, false, false] rfl rfl (any_of HT_.out (by kernel_rfl)) (fun _ _ _ h => h) (Or.inl ⟨by rfl, ?_⟩) ?_ ?_
              rotate_left
              · intro w'
                go_simp
                with_reducible rfl
              rotate_left
              · simp only [Act.put, List.setIfInBounds_toArray, List.set_cons_zero, List.set_cons_succ, i64_w, i32_w]
                rfl
              refine pure_ (i := 3) (N := some 38) (v := ?_) (a' := ?_) #[false, true, true, true, false, false, false, false, false, false, false, false, false] rfl rfl (any_of HT_.out (by kernel_rfl)) (fun _ _ _ h => h) (Or.inl ⟨by rfl, ?_⟩) ?_ ?_
              rotate_left
              · intro w'
                go_simp
                with_reducible rfl
              rotate_left
              · simp only [Act.put, List.setIfInBounds_toArray, List.set_cons_zero, List.set_cons_succ, i64_w, i32_w]
                rfl
              refine take_ (i := 0) (N := some 35) (v := ?_) (a' := ?_) #[true, true, true, true, false, false, false, false, false, false, false, false, false] rfl rfl (take_ofW HT_.out HW_.out (by kernel_rfl)) (fun _ _ _ h => h) (Or.inl ⟨by rfl, ?_⟩) hHeld ?_ ?_
              rotate_left
              · rintro w' ⟨s0, s1, s2, s3, s4, s5, s6, s7, s8, s9⟩
                go_simp
                with_reducible rfl
              rotate_left
              · simp only [Act.put, List.setIfInBounds_toArray, List.set_cons_zero, List.set_cons_succ, i64_w, i32_w]
                rfl
              refine take_ (i := 4) (N := some 39) (v := ?_) (a' := ?_) #[true, true, true, true, true, false, false, false, false, false, false, false, false] rfl rfl (take_ofW HT_.out HW_.out (by kernel_rfl)) (fun _ _ _ h => h) (Or.inl ⟨by rfl, ?_⟩) hHeld ?_ ?_
              rotate_left
              · rintro w' ⟨s0, s1, s2, s3, s4, s5, s6, s7, s8, s9⟩
                go_simp
                with_reducible rfl
              rotate_left
              · simp only [Act.put, List.setIfInBounds_toArray, List.set_cons_zero, List.set_cons_succ, i64_w, i32_w]
                rfl
              refine pure_ (i := 5) (N := some 40) (v := ?_) (a' := ?_) #[true, true, true, true, true, true, false, false, false, false, false, false, false] rfl rfl (any_of HT_.out (by kernel_rfl)) (fun _ _ _ h => h) (Or.inl ⟨by rfl, ?_⟩) ?_ ?_
              rotate_left
              · intro w'
                go_simp
                with_reducible rfl
              rotate_left
              · simp only [Act.put, List.setIfInBounds_toArray, List.set_cons_zero, List.set_cons_succ, i64_w, i32_w]
                rfl
              refine join_ (σ := Nat) 2 #[true, true, true, true, true, true, true, true, true, true, true, false, false] (fun s_ => [(41, .tuple #[.agg #[.int .i64 t179, .int .i64 t180, .int .i64 t181, .int .i64 t182, .int .i64 t183, .int .i64 t184, .int .i64 t185, .int .i64 t186, .int .i64 t187], .int .i64 t188]), (11, .pointer (some ⟨s_, 0, none⟩)), (34, .tuple #[.agg #[.int .i64 t179, .int .i64 t180, .int .i64 t181, .int .i64 t182, .int .i64 t183, .int .i64 t184, .int .i64 t185, .int .i64 t186, .int .i64 t187], .int .i64 t188]), (42, .agg #[.int .i64 t179, .int .i64 t180, .int .i64 t181, .int .i64 t182, .int .i64 t183, .int .i64 t184, .int .i64 t185, .int .i64 t186, .int .i64 t187]), (43, .int .i64 t188)]) (fun s_ w' => (w'.cell? ⟨gb177, 0, none⟩ = some (.int .i64 x178000_1) ∧ w'.cell? ⟨gb177, 1, none⟩ = some (.int .i64 x178001_1) ∧ w'.cell? ⟨gb177, 2, none⟩ = some (.int .i64 x178002_1) ∧ w'.cell? ⟨gb177, 3, none⟩ = some (.int .i64 x178003_1) ∧ w'.cell? ⟨gb177, 4, none⟩ = some (.int .i64 x178004_1) ∧ w'.cell? ⟨gb177, 5, none⟩ = some (.int .i64 x178005_1) ∧ w'.cell? ⟨gb177, 6, none⟩ = some (.int .i64 x178006_1) ∧ w'.cell? ⟨gb177, 7, none⟩ = some (.int .i64 x178007_1) ∧ w'.cell? ⟨gb177, 8, none⟩ = some (.int .i64 x178008_1) ∧ w'.cell? (ad178.add (x10_1).toNat) = some (.int .u16 (rd l1 x10_1))) ∧ (w'.heap[gb177]? = some (.cells #[.int .i64 x178000_1, .int .i64 x178001_1, .int .i64 x178002_1, .int .i64 x178003_1, .int .i64 x178004_1, .int .i64 x178005_1, .int .i64 x178006_1, .int .i64 x178007_1, .int .i64 x178008_1] 37 (0, 0))) ∧ (w'.heap[s_]? = some (.cells #[.int .i64 0, .int .i64 0, .int .i64 0, .int .i64 0, .int .i64 0, .int .i64 0, .int .i64 0, .int .i64 0, .int .i64 0] 37 (0, 0))) ∧ (w.heap.size ≤ s_) ∧ (w.heap.size ≤ s_) ∧ (gb177 ≠ s_) ∧ (s_ ≠ gb177) ∧ (Below w.heap.size w w')) ?_ ?_
              rotate_left
              · intro hCont
                refine two_ (i := 6) (j := 10) (Ni := some 41) (Nj := some 11) #[true, true, true, true, true, true, true, false, false, false, false, false, false] #[true, true, true, true, true, true, false, false, false, false, true, false, false] rfl rfl rfl rfl (two_of HT_.out (by kernel_rfl)) (by decide) (by decide) (fun K hK => ?_) (fun K hK => ?_)
                · skip
                  refine goes_ Try.func16 (by kernel_rfl) rfl #[.agg #[.int .i64 x178000_1, .int .i64 x178001_1, .int .i64 x178002_1, .int .i64 x178003_1, .int .i64 x178004_1, .int .i64 x178005_1, .int .i64 x178006_1, .int .i64 x178007_1, .int .i64 x178008_1], .int .i64 (wrap64 (rd l1 x10_1))] (by rfl) rfl rfl (by (try simp only [List.map_toArray, List.map_cons, List.map_nil]); first | done | rfl | (simp only [List.length_drop, List.length_take]; rfl)) ?_
                  with_reducible refine (feed_Known_Tell.calls x178000_1 x178001_1 x178002_1 x178003_1 x178004_1 x178005_1 x178006_1 x178007_1 x178008_1 (wrap64 (rd l1 x10_1)) t179 t180 t181 t182 t183 t184 t185 t186 t187 t188 _ A15.out).mono ?_
                  rintro e w17 ⟨rfl, hb⟩
                  refine ⟨_, rfl, ?_⟩
                  have n0_ := Aside0.mk (blk_below (g := gb177) (o := .cells #[.int .i64 x178000_1, .int .i64 x178001_1, .int .i64 x178002_1, .int .i64 x178003_1, .int .i64 x178004_1, .int .i64 x178005_1, .int .i64 x178006_1, .int .i64 x178007_1, .int .i64 x178008_1] 37 (0, 0)) (by (with_reducible repeat (first | refine blk_drewN ?_ _ | refine blk_drew ?_ | refine blk_alloc ?_ _)); exact BK177.out) hb)
                  have n1_ := Aside0.mk (below_step (by repeat (first | (with_reducible first | exact HB.out | apply below_alloc | apply pw_below_drewN | apply below_drew1 | refine below_set ?_ GE177.out) | exact HB.out)) hb)
                  clear BK177
                  clear HB
                  have BK177 := n0_
                  have HB := n1_
                  clear n0_ n1_
                  (try clear hb)
                  (try clear hb2)
                  (try clear hk)
                  (try clear hi)
                  refine hK.out _ _ ⟨(blk_cell BK177.out 0).trans rfl, (blk_cell BK177.out 1).trans rfl, (blk_cell BK177.out 2).trans rfl, (blk_cell BK177.out 3).trans rfl, (blk_cell BK177.out 4).trans rfl, (blk_cell BK177.out 5).trans rfl, (blk_cell BK177.out 6).trans rfl, (blk_cell BK177.out 7).trans rfl, (blk_cell BK177.out 8).trans rfl, ((HB.out.cell (World.block_lt_of_cell? w _ hw178_0)).trans hw178_0)⟩ (fun hHeld => ?_)
                  clear hK K
                  refine norm_ (a' := ?_) ?_ ?_
                  rotate_left
                  · show Act.put _ (some 41) _ = _
                    simp only [Act.put, List.setIfInBounds_toArray, List.set_cons_zero, List.set_cons_succ, i64_w, i32_w]
                    rfl
                  refine pure_ (i := 7) (N := some 34) (v := ?_) (a' := ?_) #[true, true, true, true, true, true, true, true, false, false, false, false, false] rfl rfl (any_of HT_.out (by kernel_rfl)) (fun _ _ _ h => h) (Or.inl ⟨by rfl, ?_⟩) ?_ ?_
                  rotate_left
                  · intro w'
                    go_simp
                    with_reducible rfl
                  rotate_left
                  · simp only [Act.put, List.setIfInBounds_toArray, List.set_cons_zero, List.set_cons_succ, i64_w, i32_w]
                    rfl
                  refine pure_ (i := 8) (N := some 42) (v := ?_) (a' := ?_) #[true, true, true, true, true, true, true, true, true, false, false, false, false] rfl rfl (any_of HT_.out (by kernel_rfl)) (fun _ _ _ h => h) (Or.inl ⟨by rfl, ?_⟩) ?_ ?_
                  rotate_left
                  · intro w'
                    go_simp
                    with_reducible rfl
                  rotate_left
                  · simp only [Act.put, List.setIfInBounds_toArray, List.set_cons_zero, List.set_cons_succ, i64_w, i32_w]
                    rfl
                  refine pure_ (i := 9) (N := some 43) (v := ?_) (a' := ?_) #[true, true, true, true, true, true, true, true, true, true, false, false, false] rfl rfl (any_of HT_.out (by kernel_rfl)) (fun _ _ _ h => h) (Or.inl ⟨by rfl, ?_⟩) ?_ ?_
                  rotate_left
                  · intro w'
                    go_simp
                    with_reducible rfl
                  rotate_left
                  · simp only [Act.put, List.setIfInBounds_toArray, List.set_cons_zero, List.set_cons_succ, i64_w, i32_w]
                    rfl
                  refine one_ (i := 10) (N := some 11) #[true, true, true, true, true, true, true, true, true, true, true, false, false] rfl rfl (one_of HT_.out (by kernel_rfl)) (by decide) (fun K hK => ?_)
                  refine box_step ?hg (N := 11) ?hd (cs := #[.int .i64 0, .int .i64 0, .int .i64 0, .int .i64 0, .int .i64 0, .int .i64 0, .int .i64 0, .int .i64 0, .int .i64 0]) (t := 37) ?hr ?_; (case hd => rfl); (case hg => rfl); (case hr => first | (go_simp; done) | (go_simp; rfl))
                  intro gb189 hg w18 hbox hb
                  have n0_ := Aside0.mk (blk_below (g := gb177) (o := .cells #[.int .i64 x178000_1, .int .i64 x178001_1, .int .i64 x178002_1, .int .i64 x178003_1, .int .i64 x178004_1, .int .i64 x178005_1, .int .i64 x178006_1, .int .i64 x178007_1, .int .i64 x178008_1] 37 (0, 0)) (by (with_reducible repeat (first | refine blk_drewN ?_ _ | refine blk_drew ?_ | refine blk_alloc ?_ _)); exact BK177.out) hb)
                  have n1_ := Aside0.mk (below_step (by repeat (first | (with_reducible first | exact HB.out | apply below_alloc | apply pw_below_drewN | apply below_drew1 | refine below_set ?_ GE177.out) | exact HB.out)) hb)
                  have n2_ := Aside0.mk (hbox)
                  have n3_ := Aside0.mk ((by rw [hg]; exact (below_size (by repeat (first | (with_reducible first | exact HB.out | apply below_alloc | apply pw_below_drewN | apply below_drew1 | refine below_set ?_ GE177.out) | exact HB.out))) : w.heap.size ≤ gb189))
                  have n4_ := Aside0.mk ((by rw [hg]; exact (below_size (by repeat (first | (with_reducible first | exact HB.out | apply below_alloc | apply pw_below_drewN | apply below_drew1 | refine below_set ?_ GE177.out) | exact HB.out))) : w.heap.size ≤ gb189))
                  have n5_ := Aside0.mk ((by rw [hg]; exact Nat.ne_of_lt (blk_lt (g := gb177) (o := .cells #[.int .i64 x178000_1, .int .i64 x178001_1, .int .i64 x178002_1, .int .i64 x178003_1, .int .i64 x178004_1, .int .i64 x178005_1, .int .i64 x178006_1, .int .i64 x178007_1, .int .i64 x178008_1] 37 (0, 0)) (by (with_reducible repeat (first | refine blk_drewN ?_ _ | refine blk_drew ?_ | refine blk_alloc ?_ _)); exact BK177.out)) : gb177 ≠ gb189))
                  have n6_ := Aside0.mk ((by rw [hg]; exact Nat.ne_of_gt (blk_lt (g := gb177) (o := .cells #[.int .i64 x178000_1, .int .i64 x178001_1, .int .i64 x178002_1, .int .i64 x178003_1, .int .i64 x178004_1, .int .i64 x178005_1, .int .i64 x178006_1, .int .i64 x178007_1, .int .i64 x178008_1] 37 (0, 0)) (by (with_reducible repeat (first | refine blk_drewN ?_ _ | refine blk_drew ?_ | refine blk_alloc ?_ _)); exact BK177.out)) : gb189 ≠ gb177))
                  clear BK177
                  clear HB
                  have BK177 := n0_
                  have HB := n1_
                  have BK189 := n2_
                  have GW189 := n3_
                  have GE189 := n4_
                  have NB177_189 := n5_
                  have NB189_177 := n6_
                  clear n0_ n1_ n2_ n3_ n4_ n5_ n6_
                  clear hb hbox hg
                  refine hK.out _ _ ⟨(blk_cell BK177.out 0).trans rfl, (blk_cell BK177.out 1).trans rfl, (blk_cell BK177.out 2).trans rfl, (blk_cell BK177.out 3).trans rfl, (blk_cell BK177.out 4).trans rfl, (blk_cell BK177.out 5).trans rfl, (blk_cell BK177.out 6).trans rfl, (blk_cell BK177.out 7).trans rfl, (blk_cell BK177.out 8).trans rfl, ((HB.out.cell (World.block_lt_of_cell? w _ hw178_0)).trans hw178_0)⟩ (fun hHeld => ?_)
                  clear hK K
                  refine norm_ (a' := ?_) ?_ ?_
                  rotate_left
                  · show Act.put _ (some 11) _ = _
                    simp only [Act.put, List.setIfInBounds_toArray, List.set_cons_zero, List.set_cons_succ, i64_w, i32_w]
                    rfl
                  exact norm_ (by simp only [putAll, Act.put, List.setIfInBounds_toArray, List.set_cons_zero, List.set_cons_succ]) (hCont (gb189) _ ⟨hHeld, (by (with_reducible repeat (first | refine blk_drewN ?_ _ | refine blk_drew ?_ | refine blk_alloc ?_ _)); exact BK177.out), (by (with_reducible repeat (first | refine blk_drewN ?_ _ | refine blk_drew ?_ | refine blk_alloc ?_ _)); exact BK189.out), GW189.out, GE189.out, NB177_189.out, NB189_177.out, (by repeat (first | (with_reducible first | exact HB.out | apply below_alloc | apply pw_below_drewN | apply below_drew1 | refine below_set ?_ GE177.out | refine below_set ?_ GE189.out) | exact HB.out))⟩)
                · skip
                  refine box_step ?hg (N := 11) ?hd (cs := #[.int .i64 0, .int .i64 0, .int .i64 0, .int .i64 0, .int .i64 0, .int .i64 0, .int .i64 0, .int .i64 0, .int .i64 0]) (t := 37) ?hr ?_; (case hd => rfl); (case hg => rfl); (case hr => first | (go_simp; done) | (go_simp; rfl))
                  intro gb189 hg w17 hbox hb
                  have n0_ := Aside0.mk (blk_below (g := gb177) (o := .cells #[.int .i64 x178000_1, .int .i64 x178001_1, .int .i64 x178002_1, .int .i64 x178003_1, .int .i64 x178004_1, .int .i64 x178005_1, .int .i64 x178006_1, .int .i64 x178007_1, .int .i64 x178008_1] 37 (0, 0)) (by (with_reducible repeat (first | refine blk_drewN ?_ _ | refine blk_drew ?_ | refine blk_alloc ?_ _)); exact BK177.out) hb)
                  have n1_ := Aside0.mk (below_step (by repeat (first | (with_reducible first | exact HB.out | apply below_alloc | apply pw_below_drewN | apply below_drew1 | refine below_set ?_ GE177.out) | exact HB.out)) hb)
                  have n2_ := Aside0.mk (hbox)
                  have n3_ := Aside0.mk ((by rw [hg]; exact (below_size (by repeat (first | (with_reducible first | exact HB.out | apply below_alloc | apply pw_below_drewN | apply below_drew1 | refine below_set ?_ GE177.out) | exact HB.out))) : w.heap.size ≤ gb189))
                  have n4_ := Aside0.mk ((by rw [hg]; exact (below_size (by repeat (first | (with_reducible first | exact HB.out | apply below_alloc | apply pw_below_drewN | apply below_drew1 | refine below_set ?_ GE177.out) | exact HB.out))) : w.heap.size ≤ gb189))
                  have n5_ := Aside0.mk ((by rw [hg]; exact Nat.ne_of_lt (blk_lt (g := gb177) (o := .cells #[.int .i64 x178000_1, .int .i64 x178001_1, .int .i64 x178002_1, .int .i64 x178003_1, .int .i64 x178004_1, .int .i64 x178005_1, .int .i64 x178006_1, .int .i64 x178007_1, .int .i64 x178008_1] 37 (0, 0)) (by (with_reducible repeat (first | refine blk_drewN ?_ _ | refine blk_drew ?_ | refine blk_alloc ?_ _)); exact BK177.out)) : gb177 ≠ gb189))
                  have n6_ := Aside0.mk ((by rw [hg]; exact Nat.ne_of_gt (blk_lt (g := gb177) (o := .cells #[.int .i64 x178000_1, .int .i64 x178001_1, .int .i64 x178002_1, .int .i64 x178003_1, .int .i64 x178004_1, .int .i64 x178005_1, .int .i64 x178006_1, .int .i64 x178007_1, .int .i64 x178008_1] 37 (0, 0)) (by (with_reducible repeat (first | refine blk_drewN ?_ _ | refine blk_drew ?_ | refine blk_alloc ?_ _)); exact BK177.out)) : gb189 ≠ gb177))
                  clear BK177
                  clear HB
                  have BK177 := n0_
                  have HB := n1_
                  have BK189 := n2_
                  have GW189 := n3_
                  have GE189 := n4_
                  have NB177_189 := n5_
                  have NB189_177 := n6_
                  clear n0_ n1_ n2_ n3_ n4_ n5_ n6_
                  clear hb hbox hg
                  refine hK.out _ _ ⟨(blk_cell BK177.out 0).trans rfl, (blk_cell BK177.out 1).trans rfl, (blk_cell BK177.out 2).trans rfl, (blk_cell BK177.out 3).trans rfl, (blk_cell BK177.out 4).trans rfl, (blk_cell BK177.out 5).trans rfl, (blk_cell BK177.out 6).trans rfl, (blk_cell BK177.out 7).trans rfl, (blk_cell BK177.out 8).trans rfl, ((HB.out.cell (World.block_lt_of_cell? w _ hw178_0)).trans hw178_0)⟩ (fun hHeld => ?_)
                  clear hK K
                  refine norm_ (a' := ?_) ?_ ?_
                  rotate_left
                  · show Act.put _ (some 11) _ = _
                    simp only [Act.put, List.setIfInBounds_toArray, List.set_cons_zero, List.set_cons_succ, i64_w, i32_w]
                    rfl
                  refine one_ (i := 6) (N := some 41) #[true, true, true, true, true, true, true, false, false, false, true, false, false] rfl rfl (one_of HT_.out (by kernel_rfl)) (by decide) (fun K hK => ?_)
                  refine goes_ Try.func16 (by kernel_rfl) rfl #[.agg #[.int .i64 x178000_1, .int .i64 x178001_1, .int .i64 x178002_1, .int .i64 x178003_1, .int .i64 x178004_1, .int .i64 x178005_1, .int .i64 x178006_1, .int .i64 x178007_1, .int .i64 x178008_1], .int .i64 (wrap64 (rd l1 x10_1))] (by rfl) rfl rfl (by (try simp only [List.map_toArray, List.map_cons, List.map_nil]); first | done | rfl | (simp only [List.length_drop, List.length_take]; rfl)) ?_
                  with_reducible refine (feed_Known_Tell.calls x178000_1 x178001_1 x178002_1 x178003_1 x178004_1 x178005_1 x178006_1 x178007_1 x178008_1 (wrap64 (rd l1 x10_1)) t179 t180 t181 t182 t183 t184 t185 t186 t187 t188 _ A15.out).mono ?_
                  rintro e w18 ⟨rfl, hb⟩
                  refine ⟨_, rfl, ?_⟩
                  have n0_ := Aside0.mk (blk_below (g := gb177) (o := .cells #[.int .i64 x178000_1, .int .i64 x178001_1, .int .i64 x178002_1, .int .i64 x178003_1, .int .i64 x178004_1, .int .i64 x178005_1, .int .i64 x178006_1, .int .i64 x178007_1, .int .i64 x178008_1] 37 (0, 0)) (by (with_reducible repeat (first | refine blk_drewN ?_ _ | refine blk_drew ?_ | refine blk_alloc ?_ _)); exact BK177.out) hb)
                  have n1_ := Aside0.mk (blk_below (g := gb189) (o := .cells #[.int .i64 0, .int .i64 0, .int .i64 0, .int .i64 0, .int .i64 0, .int .i64 0, .int .i64 0, .int .i64 0, .int .i64 0] 37 (0, 0)) (by (with_reducible repeat (first | refine blk_drewN ?_ _ | refine blk_drew ?_ | refine blk_alloc ?_ _)); exact BK189.out) hb)
                  have n2_ := Aside0.mk (below_step (by repeat (first | (with_reducible first | exact HB.out | apply below_alloc | apply pw_below_drewN | apply below_drew1 | refine below_set ?_ GE177.out | refine below_set ?_ GE189.out) | exact HB.out)) hb)
                  clear BK177
                  clear BK189
                  clear HB
                  have BK177 := n0_
                  have BK189 := n1_
                  have HB := n2_
                  clear n0_ n1_ n2_
                  (try clear hb)
                  (try clear hb2)
                  (try clear hk)
                  (try clear hi)
                  refine hK.out _ _ ⟨(blk_cell BK177.out 0).trans rfl, (blk_cell BK177.out 1).trans rfl, (blk_cell BK177.out 2).trans rfl, (blk_cell BK177.out 3).trans rfl, (blk_cell BK177.out 4).trans rfl, (blk_cell BK177.out 5).trans rfl, (blk_cell BK177.out 6).trans rfl, (blk_cell BK177.out 7).trans rfl, (blk_cell BK177.out 8).trans rfl, ((HB.out.cell (World.block_lt_of_cell? w _ hw178_0)).trans hw178_0)⟩ (fun hHeld => ?_)
                  clear hK K
                  refine norm_ (a' := ?_) ?_ ?_
                  rotate_left
                  · show Act.put _ (some 41) _ = _
                    simp only [Act.put, List.setIfInBounds_toArray, List.set_cons_zero, List.set_cons_succ, i64_w, i32_w]
                    rfl
                  refine pure_ (i := 7) (N := some 34) (v := ?_) (a' := ?_) #[true, true, true, true, true, true, true, true, false, false, true, false, false] rfl rfl (any_of HT_.out (by kernel_rfl)) (fun _ _ _ h => h) (Or.inl ⟨by rfl, ?_⟩) ?_ ?_
                  rotate_left
                  · intro w'
                    go_simp
                    with_reducible rfl
                  rotate_left
                  · simp only [Act.put, List.setIfInBounds_toArray, List.set_cons_zero, List.set_cons_succ, i64_w, i32_w]
                    rfl
                  refine pure_ (i := 8) (N := some 42) (v := ?_) (a' := ?_) #[true, true, true, true, true, true, true, true, true, false, true, false, false] rfl rfl (any_of HT_.out (by kernel_rfl)) (fun _ _ _ h => h) (Or.inl ⟨by rfl, ?_⟩) ?_ ?_
                  rotate_left
                  · intro w'
                    go_simp
                    with_reducible rfl
                  rotate_left
                  · simp only [Act.put, List.setIfInBounds_toArray, List.set_cons_zero, List.set_cons_succ, i64_w, i32_w]
                    rfl
                  refine pure_ (i := 9) (N := some 43) (v := ?_) (a' := ?_) #[true, true, true, true, true, true, true, true, true, true, true, false, false] rfl rfl (any_of HT_.out (by kernel_rfl)) (fun _ _ _ h => h) (Or.inl ⟨by rfl, ?_⟩) ?_ ?_
                  rotate_left
                  · intro w'
                    go_simp
                    with_reducible rfl
                  rotate_left
                  · simp only [Act.put, List.setIfInBounds_toArray, List.set_cons_zero, List.set_cons_succ, i64_w, i32_w]
                    rfl
                  exact norm_ (by simp only [putAll, Act.put, List.setIfInBounds_toArray, List.set_cons_zero, List.set_cons_succ]) (hCont (gb189) _ ⟨hHeld, (by (with_reducible repeat (first | refine blk_drewN ?_ _ | refine blk_drew ?_ | refine blk_alloc ?_ _)); exact BK177.out), (by (with_reducible repeat (first | refine blk_drewN ?_ _ | refine blk_drew ?_ | refine blk_alloc ?_ _)); exact BK189.out), GW189.out, GE189.out, NB177_189.out, NB189_177.out, (by repeat (first | (with_reducible first | exact HB.out | apply below_alloc | apply pw_below_drewN | apply below_drew1 | refine below_set ?_ GE177.out | refine below_set ?_ GE189.out) | exact HB.out))⟩)
              rintro gb189 w19 ⟨hS_, h0_, h1_, h2_, h3_, h4_, h5_, h6_⟩
              have n0_ : Aside0 (w19.heap[gb177]? = some (.cells #[.int .i64 x178000_1, .int .i64 x178001_1, .int .i64 x178002_1, .int .i64 x178003_1, .int .i64 x178004_1, .int .i64 x178005_1, .int .i64 x178006_1, .int .i64 x178007_1, .int .i64 x178008_1] 37 (0, 0))) := ⟨h0_⟩
              have n1_ : Aside0 (w19.heap[gb189]? = some (.cells #[.int .i64 0, .int .i64 0, .int .i64 0, .int .i64 0, .int .i64 0, .int .i64 0, .int .i64 0, .int .i64 0, .int .i64 0] 37 (0, 0))) := ⟨h1_⟩
              have n2_ : Aside0 (w.heap.size ≤ gb189) := ⟨h2_⟩
              have n3_ : Aside0 (w.heap.size ≤ gb189) := ⟨h3_⟩
              have n4_ : Aside0 (gb177 ≠ gb189) := ⟨h4_⟩
              have n5_ : Aside0 (gb189 ≠ gb177) := ⟨h5_⟩
              have n6_ : Aside0 (Below w.heap.size w w19) := ⟨h6_⟩
              clear BK177
              clear HB
              clear h0_ h1_ h2_ h3_ h4_ h5_ h6_
              have BK177 := n0_
              have BK189 := n1_
              have GW189 := n2_
              have GE189 := n3_
              have NB177_189 := n4_
              have NB189_177 := n5_
              have HB := n6_
              clear n0_ n1_ n2_ n3_ n4_ n5_ n6_
              have hHeld : w19.cell? ⟨gb177, 0, none⟩ = some (.int .i64 x178000_1) ∧ w19.cell? ⟨gb177, 1, none⟩ = some (.int .i64 x178001_1) ∧ w19.cell? ⟨gb177, 2, none⟩ = some (.int .i64 x178002_1) ∧ w19.cell? ⟨gb177, 3, none⟩ = some (.int .i64 x178003_1) ∧ w19.cell? ⟨gb177, 4, none⟩ = some (.int .i64 x178004_1) ∧ w19.cell? ⟨gb177, 5, none⟩ = some (.int .i64 x178005_1) ∧ w19.cell? ⟨gb177, 6, none⟩ = some (.int .i64 x178006_1) ∧ w19.cell? ⟨gb177, 7, none⟩ = some (.int .i64 x178007_1) ∧ w19.cell? ⟨gb177, 8, none⟩ = some (.int .i64 x178008_1) ∧ w19.cell? (ad178.add (x10_1).toNat) = some (.int .u16 (rd l1 x10_1)) := hS_
              refine norm_ (a' := ?_) ?_ ?_
              rotate_left
              · simp only [putAll, Act.put, List.setIfInBounds_toArray, List.set_cons_zero, List.set_cons_succ]
                rfl
              refine one_ (i := 11) (N := none) #[true, true, true, true, true, true, true, true, true, true, true, true, false] rfl rfl (one_of HT_.out (by kernel_rfl)) (by decide) (fun K hK => ?_)
              have hs20 : w19.cell? ⟨gb189, 0, none⟩ = some (.int .i64 0) := (blk_cell BK189.out 0).trans rfl
              have hfs20 := blk_frozen BK189.out 0
              have hns20_0 := NB177_189.out
              have hms20_0 := NB189_177.out
              have hs21 : w19.cell? ⟨gb189, 1, none⟩ = some (.int .i64 0) := (blk_cell BK189.out 1).trans rfl
              have hfs21 := blk_frozen BK189.out 1
              have hns21_0 := NB177_189.out
              have hms21_0 := NB189_177.out
              have hs22 : w19.cell? ⟨gb189, 2, none⟩ = some (.int .i64 0) := (blk_cell BK189.out 2).trans rfl
              have hfs22 := blk_frozen BK189.out 2
              have hns22_0 := NB177_189.out
              have hms22_0 := NB189_177.out
              have hs23 : w19.cell? ⟨gb189, 3, none⟩ = some (.int .i64 0) := (blk_cell BK189.out 3).trans rfl
              have hfs23 := blk_frozen BK189.out 3
              have hns23_0 := NB177_189.out
              have hms23_0 := NB189_177.out
              have hs24 : w19.cell? ⟨gb189, 4, none⟩ = some (.int .i64 0) := (blk_cell BK189.out 4).trans rfl
              have hfs24 := blk_frozen BK189.out 4
              have hns24_0 := NB177_189.out
              have hms24_0 := NB189_177.out
              have hs25 : w19.cell? ⟨gb189, 5, none⟩ = some (.int .i64 0) := (blk_cell BK189.out 5).trans rfl
              have hfs25 := blk_frozen BK189.out 5
              have hns25_0 := NB177_189.out
              have hms25_0 := NB189_177.out
              have hs26 : w19.cell? ⟨gb189, 6, none⟩ = some (.int .i64 0) := (blk_cell BK189.out 6).trans rfl
              have hfs26 := blk_frozen BK189.out 6
              have hns26_0 := NB177_189.out
              have hms26_0 := NB189_177.out
              have hs27 : w19.cell? ⟨gb189, 7, none⟩ = some (.int .i64 0) := (blk_cell BK189.out 7).trans rfl
              have hfs27 := blk_frozen BK189.out 7
              have hns27_0 := NB177_189.out
              have hms27_0 := NB189_177.out
              have hs28 : w19.cell? ⟨gb189, 8, none⟩ = some (.int .i64 0) := (blk_cell BK189.out 8).trans rfl
              have hfs28 := blk_frozen BK189.out 8
              have hns28_0 := NB177_189.out
              have hms28_0 := NB189_177.out
              refine skip_ (w1 := ?_) (by rfl) rfl ?_ ?_
              rotate_left
              · go_simp
                rfl
              refine hK.out _ _ ⟨((cell_far (p := ⟨gb189, _, none⟩) NB177_189.out _).trans (((cell_far (p := ⟨gb189, _, none⟩) NB177_189.out _).trans (((cell_far (p := ⟨gb189, _, none⟩) NB177_189.out _).trans (((cell_far (p := ⟨gb189, _, none⟩) NB177_189.out _).trans (((cell_far (p := ⟨gb189, _, none⟩) NB177_189.out _).trans (((cell_far (p := ⟨gb189, _, none⟩) NB177_189.out _).trans (((cell_far (p := ⟨gb189, _, none⟩) NB177_189.out _).trans (((cell_far (p := ⟨gb189, _, none⟩) NB177_189.out _).trans (((cell_far (p := ⟨gb189, _, none⟩) NB177_189.out _).trans (hHeld.1)))))))))))))))))), ((cell_far (p := ⟨gb189, _, none⟩) NB177_189.out _).trans (((cell_far (p := ⟨gb189, _, none⟩) NB177_189.out _).trans (((cell_far (p := ⟨gb189, _, none⟩) NB177_189.out _).trans (((cell_far (p := ⟨gb189, _, none⟩) NB177_189.out _).trans (((cell_far (p := ⟨gb189, _, none⟩) NB177_189.out _).trans (((cell_far (p := ⟨gb189, _, none⟩) NB177_189.out _).trans (((cell_far (p := ⟨gb189, _, none⟩) NB177_189.out _).trans (((cell_far (p := ⟨gb189, _, none⟩) NB177_189.out _).trans (((cell_far (p := ⟨gb189, _, none⟩) NB177_189.out _).trans (hHeld.2.1)))))))))))))))))), ((cell_far (p := ⟨gb189, _, none⟩) NB177_189.out _).trans (((cell_far (p := ⟨gb189, _, none⟩) NB177_189.out _).trans (((cell_far (p := ⟨gb189, _, none⟩) NB177_189.out _).trans (((cell_far (p := ⟨gb189, _, none⟩) NB177_189.out _).trans (((cell_far (p := ⟨gb189, _, none⟩) NB177_189.out _).trans (((cell_far (p := ⟨gb189, _, none⟩) NB177_189.out _).trans (((cell_far (p := ⟨gb189, _, none⟩) NB177_189.out _).trans (((cell_far (p := ⟨gb189, _, none⟩) NB177_189.out _).trans (((cell_far (p := ⟨gb189, _, none⟩) NB177_189.out _).trans (hHeld.2.2.1)))))))))))))))))), ((cell_far (p := ⟨gb189, _, none⟩) NB177_189.out _).trans (((cell_far (p := ⟨gb189, _, none⟩) NB177_189.out _).trans (((cell_far (p := ⟨gb189, _, none⟩) NB177_189.out _).trans (((cell_far (p := ⟨gb189, _, none⟩) NB177_189.out _).trans (((cell_far (p := ⟨gb189, _, none⟩) NB177_189.out _).trans (((cell_far (p := ⟨gb189, _, none⟩) NB177_189.out _).trans (((cell_far (p := ⟨gb189, _, none⟩) NB177_189.out _).trans (((cell_far (p := ⟨gb189, _, none⟩) NB177_189.out _).trans (((cell_far (p := ⟨gb189, _, none⟩) NB177_189.out _).trans (hHeld.2.2.2.1)))))))))))))))))), ((cell_far (p := ⟨gb189, _, none⟩) NB177_189.out _).trans (((cell_far (p := ⟨gb189, _, none⟩) NB177_189.out _).trans (((cell_far (p := ⟨gb189, _, none⟩) NB177_189.out _).trans (((cell_far (p := ⟨gb189, _, none⟩) NB177_189.out _).trans (((cell_far (p := ⟨gb189, _, none⟩) NB177_189.out _).trans (((cell_far (p := ⟨gb189, _, none⟩) NB177_189.out _).trans (((cell_far (p := ⟨gb189, _, none⟩) NB177_189.out _).trans (((cell_far (p := ⟨gb189, _, none⟩) NB177_189.out _).trans (((cell_far (p := ⟨gb189, _, none⟩) NB177_189.out _).trans (hHeld.2.2.2.2.1)))))))))))))))))), ((cell_far (p := ⟨gb189, _, none⟩) NB177_189.out _).trans (((cell_far (p := ⟨gb189, _, none⟩) NB177_189.out _).trans (((cell_far (p := ⟨gb189, _, none⟩) NB177_189.out _).trans (((cell_far (p := ⟨gb189, _, none⟩) NB177_189.out _).trans (((cell_far (p := ⟨gb189, _, none⟩) NB177_189.out _).trans (((cell_far (p := ⟨gb189, _, none⟩) NB177_189.out _).trans (((cell_far (p := ⟨gb189, _, none⟩) NB177_189.out _).trans (((cell_far (p := ⟨gb189, _, none⟩) NB177_189.out _).trans (((cell_far (p := ⟨gb189, _, none⟩) NB177_189.out _).trans (hHeld.2.2.2.2.2.1)))))))))))))))))), ((cell_far (p := ⟨gb189, _, none⟩) NB177_189.out _).trans (((cell_far (p := ⟨gb189, _, none⟩) NB177_189.out _).trans (((cell_far (p := ⟨gb189, _, none⟩) NB177_189.out _).trans (((cell_far (p := ⟨gb189, _, none⟩) NB177_189.out _).trans (((cell_far (p := ⟨gb189, _, none⟩) NB177_189.out _).trans (((cell_far (p := ⟨gb189, _, none⟩) NB177_189.out _).trans (((cell_far (p := ⟨gb189, _, none⟩) NB177_189.out _).trans (((cell_far (p := ⟨gb189, _, none⟩) NB177_189.out _).trans (((cell_far (p := ⟨gb189, _, none⟩) NB177_189.out _).trans (hHeld.2.2.2.2.2.2.1)))))))))))))))))), ((cell_far (p := ⟨gb189, _, none⟩) NB177_189.out _).trans (((cell_far (p := ⟨gb189, _, none⟩) NB177_189.out _).trans (((cell_far (p := ⟨gb189, _, none⟩) NB177_189.out _).trans (((cell_far (p := ⟨gb189, _, none⟩) NB177_189.out _).trans (((cell_far (p := ⟨gb189, _, none⟩) NB177_189.out _).trans (((cell_far (p := ⟨gb189, _, none⟩) NB177_189.out _).trans (((cell_far (p := ⟨gb189, _, none⟩) NB177_189.out _).trans (((cell_far (p := ⟨gb189, _, none⟩) NB177_189.out _).trans (((cell_far (p := ⟨gb189, _, none⟩) NB177_189.out _).trans (hHeld.2.2.2.2.2.2.2.1)))))))))))))))))), ((cell_far (p := ⟨gb189, _, none⟩) NB177_189.out _).trans (((cell_far (p := ⟨gb189, _, none⟩) NB177_189.out _).trans (((cell_far (p := ⟨gb189, _, none⟩) NB177_189.out _).trans (((cell_far (p := ⟨gb189, _, none⟩) NB177_189.out _).trans (((cell_far (p := ⟨gb189, _, none⟩) NB177_189.out _).trans (((cell_far (p := ⟨gb189, _, none⟩) NB177_189.out _).trans (((cell_far (p := ⟨gb189, _, none⟩) NB177_189.out _).trans (((cell_far (p := ⟨gb189, _, none⟩) NB177_189.out _).trans (((cell_far (p := ⟨gb189, _, none⟩) NB177_189.out _).trans (hHeld.2.2.2.2.2.2.2.2.1)))))))))))))))))), ((cell_far (p := ⟨gb189, _, none⟩) (by first | exact Nat.ne_of_lt (Nat.lt_of_lt_of_le (by have := World.block_lt_of_cell? _ _ hw178_0; first | rwa [add_block] at this | exact this) GW189.out) | (rw [add_block]; exact Nat.ne_of_lt (Nat.lt_of_lt_of_le (by have := World.block_lt_of_cell? _ _ hw178_0; first | rwa [add_block] at this | exact this) GW189.out)) | (show (Addr.add _ _).block ≠ _; rw [add_block]; exact Nat.ne_of_lt (Nat.lt_of_lt_of_le (by have := World.block_lt_of_cell? _ _ hw178_0; first | rwa [add_block] at this | exact this) GW189.out)) | (dsimp only; exact Nat.ne_of_lt (Nat.lt_of_lt_of_le (by have := World.block_lt_of_cell? _ _ hw178_0; first | rwa [add_block] at this | exact this) GW189.out))) _).trans (((cell_far (p := ⟨gb189, _, none⟩) (by first | exact Nat.ne_of_lt (Nat.lt_of_lt_of_le (by have := World.block_lt_of_cell? _ _ hw178_0; first | rwa [add_block] at this | exact this) GW189.out) | (rw [add_block]; exact Nat.ne_of_lt (Nat.lt_of_lt_of_le (by have := World.block_lt_of_cell? _ _ hw178_0; first | rwa [add_block] at this | exact this) GW189.out)) | (show (Addr.add _ _).block ≠ _; rw [add_block]; exact Nat.ne_of_lt (Nat.lt_of_lt_of_le (by have := World.block_lt_of_cell? _ _ hw178_0; first | rwa [add_block] at this | exact this) GW189.out)) | (dsimp only; exact Nat.ne_of_lt (Nat.lt_of_lt_of_le (by have := World.block_lt_of_cell? _ _ hw178_0; first | rwa [add_block] at this | exact this) GW189.out))) _).trans (((cell_far (p := ⟨gb189, _, none⟩) (by first | exact Nat.ne_of_lt (Nat.lt_of_lt_of_le (by have := World.block_lt_of_cell? _ _ hw178_0; first | rwa [add_block] at this | exact this) GW189.out) | (rw [add_block]; exact Nat.ne_of_lt (Nat.lt_of_lt_of_le (by have := World.block_lt_of_cell? _ _ hw178_0; first | rwa [add_block] at this | exact this) GW189.out)) | (show (Addr.add _ _).block ≠ _; rw [add_block]; exact Nat.ne_of_lt (Nat.lt_of_lt_of_le (by have := World.block_lt_of_cell? _ _ hw178_0; first | rwa [add_block] at this | exact this) GW189.out)) | (dsimp only; exact Nat.ne_of_lt (Nat.lt_of_lt_of_le (by have := World.block_lt_of_cell? _ _ hw178_0; first | rwa [add_block] at this | exact this) GW189.out))) _).trans (((cell_far (p := ⟨gb189, _, none⟩) (by first | exact Nat.ne_of_lt (Nat.lt_of_lt_of_le (by have := World.block_lt_of_cell? _ _ hw178_0; first | rwa [add_block] at this | exact this) GW189.out) | (rw [add_block]; exact Nat.ne_of_lt (Nat.lt_of_lt_of_le (by have := World.block_lt_of_cell? _ _ hw178_0; first | rwa [add_block] at this | exact this) GW189.out)) | (show (Addr.add _ _).block ≠ _; rw [add_block]; exact Nat.ne_of_lt (Nat.lt_of_lt_of_le (by have := World.block_lt_of_cell? _ _ hw178_0; first | rwa [add_block] at this | exact this) GW189.out)) | (dsimp only; exact Nat.ne_of_lt (Nat.lt_of_lt_of_le (by have := World.block_lt_of_cell? _ _ hw178_0; first | rwa [add_block] at this | exact this) GW189.out))) _).trans (((cell_far (p := ⟨gb189, _, none⟩) (by first | exact Nat.ne_of_lt (Nat.lt_of_lt_of_le (by have := World.block_lt_of_cell? _ _ hw178_0; first | rwa [add_block] at this | exact this) GW189.out) | (rw [add_block]; exact Nat.ne_of_lt (Nat.lt_of_lt_of_le (by have := World.block_lt_of_cell? _ _ hw178_0; first | rwa [add_block] at this | exact this) GW189.out)) | (show (Addr.add _ _).block ≠ _; rw [add_block]; exact Nat.ne_of_lt (Nat.lt_of_lt_of_le (by have := World.block_lt_of_cell? _ _ hw178_0; first | rwa [add_block] at this | exact this) GW189.out)) | (dsimp only; exact Nat.ne_of_lt (Nat.lt_of_lt_of_le (by have := World.block_lt_of_cell? _ _ hw178_0; first | rwa [add_block] at this | exact this) GW189.out))) _).trans (((cell_far (p := ⟨gb189, _, none⟩) (by first | exact Nat.ne_of_lt (Nat.lt_of_lt_of_le (by have := World.block_lt_of_cell? _ _ hw178_0; first | rwa [add_block] at this | exact this) GW189.out) | (rw [add_block]; exact Nat.ne_of_lt (Nat.lt_of_lt_of_le (by have := World.block_lt_of_cell? _ _ hw178_0; first | rwa [add_block] at this | exact this) GW189.out)) | (show (Addr.add _ _).block ≠ _; rw [add_block]; exact Nat.ne_of_lt (Nat.lt_of_lt_of_le (by have := World.block_lt_of_cell? _ _ hw178_0; first | rwa [add_block] at this | exact this) GW189.out)) | (dsimp only; exact Nat.ne_of_lt (Nat.lt_of_lt_of_le (by have := World.block_lt_of_cell? _ _ hw178_0; first | rwa [add_block] at this | exact this) GW189.out))) _).trans (((cell_far (p := ⟨gb189, _, none⟩) (by first | exact Nat.ne_of_lt (Nat.lt_of_lt_of_le (by have := World.block_lt_of_cell? _ _ hw178_0; first | rwa [add_block] at this | exact this) GW189.out) | (rw [add_block]; exact Nat.ne_of_lt (Nat.lt_of_lt_of_le (by have := World.block_lt_of_cell? _ _ hw178_0; first | rwa [add_block] at this | exact this) GW189.out)) | (show (Addr.add _ _).block ≠ _; rw [add_block]; exact Nat.ne_of_lt (Nat.lt_of_lt_of_le (by have := World.block_lt_of_cell? _ _ hw178_0; first | rwa [add_block] at this | exact this) GW189.out)) | (dsimp only; exact Nat.ne_of_lt (Nat.lt_of_lt_of_le (by have := World.block_lt_of_cell? _ _ hw178_0; first | rwa [add_block] at this | exact this) GW189.out))) _).trans (((cell_far (p := ⟨gb189, _, none⟩) (by first | exact Nat.ne_of_lt (Nat.lt_of_lt_of_le (by have := World.block_lt_of_cell? _ _ hw178_0; first | rwa [add_block] at this | exact this) GW189.out) | (rw [add_block]; exact Nat.ne_of_lt (Nat.lt_of_lt_of_le (by have := World.block_lt_of_cell? _ _ hw178_0; first | rwa [add_block] at this | exact this) GW189.out)) | (show (Addr.add _ _).block ≠ _; rw [add_block]; exact Nat.ne_of_lt (Nat.lt_of_lt_of_le (by have := World.block_lt_of_cell? _ _ hw178_0; first | rwa [add_block] at this | exact this) GW189.out)) | (dsimp only; exact Nat.ne_of_lt (Nat.lt_of_lt_of_le (by have := World.block_lt_of_cell? _ _ hw178_0; first | rwa [add_block] at this | exact this) GW189.out))) _).trans (((cell_far (p := ⟨gb189, _, none⟩) (by first | exact Nat.ne_of_lt (Nat.lt_of_lt_of_le (by have := World.block_lt_of_cell? _ _ hw178_0; first | rwa [add_block] at this | exact this) GW189.out) | (rw [add_block]; exact Nat.ne_of_lt (Nat.lt_of_lt_of_le (by have := World.block_lt_of_cell? _ _ hw178_0; first | rwa [add_block] at this | exact this) GW189.out)) | (show (Addr.add _ _).block ≠ _; rw [add_block]; exact Nat.ne_of_lt (Nat.lt_of_lt_of_le (by have := World.block_lt_of_cell? _ _ hw178_0; first | rwa [add_block] at this | exact this) GW189.out)) | (dsimp only; exact Nat.ne_of_lt (Nat.lt_of_lt_of_le (by have := World.block_lt_of_cell? _ _ hw178_0; first | rwa [add_block] at this | exact this) GW189.out))) _).trans (hHeld.2.2.2.2.2.2.2.2.2))))))))))))))))))⟩ (fun hHeld => ?_)
              clear hK K
              refine pure_ (i := 12) (N := some 12) (v := ?_) (a' := ?_) #[true, true, true, true, true, true, true, true, true, true, true, true, true] rfl rfl (any_of HT_.out (by kernel_rfl)) (fun _ _ _ h => h) (Or.inl ⟨by rfl, ?_⟩) ?_ ?_
              rotate_left
              · intro w'
                go_simp
                with_reducible rfl
              rotate_left
              · simp only [Act.put, List.setIfInBounds_toArray, List.set_cons_zero, List.set_cons_succ, i64_w, i32_w]
                rfl
              refine done_ (done_of HT_.out (by kernel_rfl)) ?_
              have hnb29 := NB189_177.out
              have hnc29 := NB177_189.out
              have hcz30_0 : w19.cell? ⟨gb189, 0, none⟩ = some (.int .i64 0) := (blk_cell BK189.out 0).trans rfl
              have hcz30_1 : w19.cell? ⟨gb189, 1, none⟩ = some (.int .i64 0) := (blk_cell BK189.out 1).trans rfl
              have hcz30_2 : w19.cell? ⟨gb189, 2, none⟩ = some (.int .i64 0) := (blk_cell BK189.out 2).trans rfl
              have hcz30_3 : w19.cell? ⟨gb189, 3, none⟩ = some (.int .i64 0) := (blk_cell BK189.out 3).trans rfl
              have hcz30_4 : w19.cell? ⟨gb189, 4, none⟩ = some (.int .i64 0) := (blk_cell BK189.out 4).trans rfl
              have hcz30_5 : w19.cell? ⟨gb189, 5, none⟩ = some (.int .i64 0) := (blk_cell BK189.out 5).trans rfl
              have hcz30_6 : w19.cell? ⟨gb189, 6, none⟩ = some (.int .i64 0) := (blk_cell BK189.out 6).trans rfl
              have hcz30_7 : w19.cell? ⟨gb189, 7, none⟩ = some (.int .i64 0) := (blk_cell BK189.out 7).trans rfl
              have hcz30_8 : w19.cell? ⟨gb189, 8, none⟩ = some (.int .i64 0) := (blk_cell BK189.out 8).trans rfl
              have hfz30_0 := blk_frozen BK189.out 0
              have hfz30_1 := blk_frozen BK189.out 1
              have hfz30_2 := blk_frozen BK189.out 2
              have hfz30_3 := blk_frozen BK189.out 3
              have hfz30_4 := blk_frozen BK189.out 4
              have hfz30_5 := blk_frozen BK189.out 5
              have hfz30_6 := blk_frozen BK189.out 6
              have hfz30_7 := blk_frozen BK189.out 7
              have hfz30_8 := blk_frozen BK189.out 8
              have hcz31_0 : w19.cell? ⟨gb177, 0, none⟩ = some (.int .i64 x178000_1) := (blk_cell BK177.out 0).trans rfl
              have hcz31_1 : w19.cell? ⟨gb177, 1, none⟩ = some (.int .i64 x178001_1) := (blk_cell BK177.out 1).trans rfl
              have hcz31_2 : w19.cell? ⟨gb177, 2, none⟩ = some (.int .i64 x178002_1) := (blk_cell BK177.out 2).trans rfl
              have hcz31_3 : w19.cell? ⟨gb177, 3, none⟩ = some (.int .i64 x178003_1) := (blk_cell BK177.out 3).trans rfl
              have hcz31_4 : w19.cell? ⟨gb177, 4, none⟩ = some (.int .i64 x178004_1) := (blk_cell BK177.out 4).trans rfl
              have hcz31_5 : w19.cell? ⟨gb177, 5, none⟩ = some (.int .i64 x178005_1) := (blk_cell BK177.out 5).trans rfl
              have hcz31_6 : w19.cell? ⟨gb177, 6, none⟩ = some (.int .i64 x178006_1) := (blk_cell BK177.out 6).trans rfl
              have hcz31_7 : w19.cell? ⟨gb177, 7, none⟩ = some (.int .i64 x178007_1) := (blk_cell BK177.out 7).trans rfl
              have hcz31_8 : w19.cell? ⟨gb177, 8, none⟩ = some (.int .i64 x178008_1) := (blk_cell BK177.out 8).trans rfl
              have hfz31_0 := blk_frozen BK177.out 0
              have hfz31_1 := blk_frozen BK177.out 1
              have hfz31_2 := blk_frozen BK177.out 2
              have hfz31_3 := blk_frozen BK177.out 3
              have hfz31_4 := blk_frozen BK177.out 4
              have hfz31_5 := blk_frozen BK177.out 5
              have hfz31_6 := blk_frozen BK177.out 6
              have hfz31_7 := blk_frozen BK177.out 7
              have hfz31_8 := blk_frozen BK177.out 8
              try go_wp2
              go_roundg k1
              case measure => have := HK1.out; omega
              case rel => exact ⟨(wrap64 (x10_1 + 1)), (t179), (t180), (t181), (t182), (t183), (t184), (t185), (t186), (t187), (by first | rfl | (simp; done) | (simp [*]; done)), H', ⟨by have := HK1.out; omega⟩, ⟨by (with_reducible repeat (first | refine blk_drewN ?_ _ | refine blk_drew ?_ | refine blk_alloc ?_ _)); refine blk_put (cs := #[.int .i64 t179, .int .i64 t180, .int .i64 t181, .int .i64 t182, .int .i64 t183, .int .i64 t184, .int .i64 t185, .int .i64 t186, .int .i64 x178008_1]) ?_ 8 _ rfl; (with_reducible repeat (first | refine blk_drewN ?_ _ | refine blk_drew ?_ | refine blk_alloc ?_ _)); refine blk_put (cs := #[.int .i64 t179, .int .i64 t180, .int .i64 t181, .int .i64 t182, .int .i64 t183, .int .i64 t184, .int .i64 t185, .int .i64 x178007_1, .int .i64 x178008_1]) ?_ 7 _ rfl; (with_reducible repeat (first | refine blk_drewN ?_ _ | refine blk_drew ?_ | refine blk_alloc ?_ _)); refine blk_put (cs := #[.int .i64 t179, .int .i64 t180, .int .i64 t181, .int .i64 t182, .int .i64 t183, .int .i64 t184, .int .i64 x178006_1, .int .i64 x178007_1, .int .i64 x178008_1]) ?_ 6 _ rfl; (with_reducible repeat (first | refine blk_drewN ?_ _ | refine blk_drew ?_ | refine blk_alloc ?_ _)); refine blk_put (cs := #[.int .i64 t179, .int .i64 t180, .int .i64 t181, .int .i64 t182, .int .i64 t183, .int .i64 x178005_1, .int .i64 x178006_1, .int .i64 x178007_1, .int .i64 x178008_1]) ?_ 5 _ rfl; (with_reducible repeat (first | refine blk_drewN ?_ _ | refine blk_drew ?_ | refine blk_alloc ?_ _)); refine blk_put (cs := #[.int .i64 t179, .int .i64 t180, .int .i64 t181, .int .i64 t182, .int .i64 x178004_1, .int .i64 x178005_1, .int .i64 x178006_1, .int .i64 x178007_1, .int .i64 x178008_1]) ?_ 4 _ rfl; (with_reducible repeat (first | refine blk_drewN ?_ _ | refine blk_drew ?_ | refine blk_alloc ?_ _)); refine blk_put (cs := #[.int .i64 t179, .int .i64 t180, .int .i64 t181, .int .i64 x178003_1, .int .i64 x178004_1, .int .i64 x178005_1, .int .i64 x178006_1, .int .i64 x178007_1, .int .i64 x178008_1]) ?_ 3 _ rfl; (with_reducible repeat (first | refine blk_drewN ?_ _ | refine blk_drew ?_ | refine blk_alloc ?_ _)); refine blk_put (cs := #[.int .i64 t179, .int .i64 t180, .int .i64 x178002_1, .int .i64 x178003_1, .int .i64 x178004_1, .int .i64 x178005_1, .int .i64 x178006_1, .int .i64 x178007_1, .int .i64 x178008_1]) ?_ 2 _ rfl; (with_reducible repeat (first | refine blk_drewN ?_ _ | refine blk_drew ?_ | refine blk_alloc ?_ _)); refine blk_put (cs := #[.int .i64 t179, .int .i64 x178001_1, .int .i64 x178002_1, .int .i64 x178003_1, .int .i64 x178004_1, .int .i64 x178005_1, .int .i64 x178006_1, .int .i64 x178007_1, .int .i64 x178008_1]) ?_ 1 _ rfl; (with_reducible repeat (first | refine blk_drewN ?_ _ | refine blk_drew ?_ | refine blk_alloc ?_ _)); refine blk_put (cs := #[.int .i64 x178000_1, .int .i64 x178001_1, .int .i64 x178002_1, .int .i64 x178003_1, .int .i64 x178004_1, .int .i64 x178005_1, .int .i64 x178006_1, .int .i64 x178007_1, .int .i64 x178008_1]) ?_ 0 _ rfl; (with_reducible repeat (first | refine blk_drewN ?_ _ | refine blk_drew ?_ | refine blk_alloc ?_ _)); refine blk_far ?_ NB177_189.out _; (with_reducible repeat (first | refine blk_drewN ?_ _ | refine blk_drew ?_ | refine blk_alloc ?_ _)); refine blk_far ?_ NB177_189.out _; (with_reducible repeat (first | refine blk_drewN ?_ _ | refine blk_drew ?_ | refine blk_alloc ?_ _)); refine blk_far ?_ NB177_189.out _; (with_reducible repeat (first | refine blk_drewN ?_ _ | refine blk_drew ?_ | refine blk_alloc ?_ _)); refine blk_far ?_ NB177_189.out _; (with_reducible repeat (first | refine blk_drewN ?_ _ | refine blk_drew ?_ | refine blk_alloc ?_ _)); refine blk_far ?_ NB177_189.out _; (with_reducible repeat (first | refine blk_drewN ?_ _ | refine blk_drew ?_ | refine blk_alloc ?_ _)); refine blk_far ?_ NB177_189.out _; (with_reducible repeat (first | refine blk_drewN ?_ _ | refine blk_drew ?_ | refine blk_alloc ?_ _)); refine blk_far ?_ NB177_189.out _; (with_reducible repeat (first | refine blk_drewN ?_ _ | refine blk_drew ?_ | refine blk_alloc ?_ _)); refine blk_far ?_ NB177_189.out _; (with_reducible repeat (first | refine blk_drewN ?_ _ | refine blk_drew ?_ | refine blk_alloc ?_ _)); refine blk_far ?_ NB177_189.out _; (with_reducible repeat (first | refine blk_drewN ?_ _ | refine blk_drew ?_ | refine blk_alloc ?_ _)); exact BK177.out⟩, ⟨by repeat (first | (with_reducible first | exact HB.out | apply below_alloc | apply pw_below_drewN | apply below_drew1 | refine below_set ?_ GE177.out | refine below_set ?_ GE189.out) | exact HB.out)⟩⟩
            · rw [if_neg c14] at H
              exact absurd H (by simp)
          · rw [if_neg c13] at H
            have c13b0 : decide (x10_1 < (l1.length : Int)) = false := decide_eq_false c13
            clear c13
            have H' := Aside0.mk H
            clear H
            go_wp2
            go_loopg [13] k1 (fun kq v13 w' => ∃ (x13_2 : Int) (x178000_2 : Int) (x178001_2 : Int) (x178002_2 : Int) (x178003_2 : Int) (x178004_2 : Int) (x178005_2 : Int) (x178006_2 : Int) (x178007_2 : Int) (x178008_2 : Int), v13 = .int .i64 x13_2 ∧ Aside0 (paternosterlaw10_FeedLags.l1 kq l1 a2 (wrap64 (Int.tmod a0 9)) x13_2 x178000_2 x178001_2 x178002_2 x178003_2 x178004_2 x178005_2 x178006_2 x178007_2 x178008_2 = some r) ∧ Aside0 (kq ≤ k1) ∧ Aside0 (w'.heap[gb177]? = some (.cells #[.int .i64 x178000_2, .int .i64 x178001_2, .int .i64 x178002_2, .int .i64 x178003_2, .int .i64 x178004_2, .int .i64 x178005_2, .int .i64 x178006_2, .int .i64 x178007_2, .int .i64 x178008_2] 37 (0, 0))) ∧ Aside0 (Below w.heap.size w w'))
            case atStart => exact ⟨(0), (x178000_1), (x178001_1), (x178002_1), (x178003_1), (x178004_1), (x178005_1), (x178006_1), (x178007_1), (x178008_1), (by first | rfl | (simp; done) | (simp [*]; done)), H', ⟨Nat.le_refl _⟩, ⟨by (with_reducible repeat (first | refine blk_drewN ?_ _ | refine blk_drew ?_ | refine blk_alloc ?_ _)); exact BK177.out⟩, ⟨by repeat (first | (with_reducible first | exact HB.out | apply below_alloc | apply pw_below_drewN | apply below_drew1 | refine below_set ?_ GE177.out) | exact HB.out)⟩⟩
            case round =>
              clear H'
              try clear c1
              try clear p1
              try clear q1
              try clear hx1
              try clear c2
              try clear p2
              try clear c5
              try clear c6
              try clear c6b0
              try clear c6b1
              try clear p6
              try clear c9
              try clear c13
              try clear c13b0
              try clear c14
              try clear c14b0
              try clear c15
              try clear c16
              try clear p17
              try clear q17
              try clear hx17
              try clear c29
              try clear hcz12_0
              try clear hcz12_1
              try clear hcz12_2
              try clear hcz12_3
              try clear hcz12_4
              try clear hcz12_5
              try clear hcz12_6
              try clear hcz12_7
              try clear hcz12_8
              try clear hcz30_0
              try clear hcz30_1
              try clear hcz30_2
              try clear hcz30_3
              try clear hcz30_4
              try clear hcz30_5
              try clear hcz30_6
              try clear hcz30_7
              try clear hcz30_8
              try clear hcz31_0
              try clear hcz31_1
              try clear hcz31_2
              try clear hcz31_3
              try clear hcz31_4
              try clear hcz31_5
              try clear hcz31_6
              try clear hcz31_7
              try clear hcz31_8
              try clear hfz12_0
              try clear hfz12_1
              try clear hfz12_2
              try clear hfz12_3
              try clear hfz12_4
              try clear hfz12_5
              try clear hfz12_6
              try clear hfz12_7
              try clear hfz12_8
              try clear hfz30_0
              try clear hfz30_1
              try clear hfz30_2
              try clear hfz30_3
              try clear hfz30_4
              try clear hfz30_5
              try clear hfz30_6
              try clear hfz30_7
              try clear hfz30_8
              try clear hfz31_0
              try clear hfz31_1
              try clear hfz31_2
              try clear hfz31_3
              try clear hfz31_4
              try clear hfz31_5
              try clear hfz31_6
              try clear hfz31_7
              try clear hfz31_8
              try clear hx178_0
              try clear p178
              try clear p2
              try clear p6
              try clear q178
              obtain ⟨x13_2, x178000_2, x178001_2, x178002_2, x178003_2, x178004_2, x178005_2, x178006_2, x178007_2, x178008_2, rfl, HA, HK2, BK177, HB⟩ := hrel
              cases gk with
              | zero => exact absurd HA.out (by simp [paternosterlaw10_FeedLags.l1])
              | succ k2 =>
                have H := HA.out
                clear HA
                simp only [paternosterlaw10_FeedLags.l1] at H
                by_cases c32 : x13_2 < 20
                · rw [if_pos c32] at H
                  have c32b0 : decide (x13_2 < 20) = true := decide_eq_true c32
                  clear c32
                  replace H := Option.bind_eq_some_iff.mp H
                  obtain ⟨⟨t190, t191, t192, t193, t194, t195, t196, t197, t198, t199⟩, A330, H⟩ := H
                  replace H : (if x13_2 ≥ (wrap64 (Int.tmod a0 9)) then (paternosterlaw10_FeedLags.j2 k2 l1 a2 (wrap64 (Int.tmod a0 9)) x13_2 t199 (t199 != (wrap64 (a2))) t190 t191 t192 t193 t194 t195 t196 t197 t198) else (paternosterlaw10_FeedLags.j2 k2 l1 a2 (wrap64 (Int.tmod a0 9)) x13_2 t199 false t190 t191 t192 t193 t194 t195 t196 t197 t198)) = some r := H
                  have A33 := Aside0.mk A330
                  clear A330
                  have HC34 := Aside0.mk H
                  clear H
                  have hcz35_0 : wr.cell? ⟨gb177, 0, none⟩ = some (.int .i64 x178000_2) := (blk_cell BK177.out 0).trans rfl
                  have hcz35_1 : wr.cell? ⟨gb177, 1, none⟩ = some (.int .i64 x178001_2) := (blk_cell BK177.out 1).trans rfl
                  have hcz35_2 : wr.cell? ⟨gb177, 2, none⟩ = some (.int .i64 x178002_2) := (blk_cell BK177.out 2).trans rfl
                  have hcz35_3 : wr.cell? ⟨gb177, 3, none⟩ = some (.int .i64 x178003_2) := (blk_cell BK177.out 3).trans rfl
                  have hcz35_4 : wr.cell? ⟨gb177, 4, none⟩ = some (.int .i64 x178004_2) := (blk_cell BK177.out 4).trans rfl
                  have hcz35_5 : wr.cell? ⟨gb177, 5, none⟩ = some (.int .i64 x178005_2) := (blk_cell BK177.out 5).trans rfl
                  have hcz35_6 : wr.cell? ⟨gb177, 6, none⟩ = some (.int .i64 x178006_2) := (blk_cell BK177.out 6).trans rfl
                  have hcz35_7 : wr.cell? ⟨gb177, 7, none⟩ = some (.int .i64 x178007_2) := (blk_cell BK177.out 7).trans rfl
                  have hcz35_8 : wr.cell? ⟨gb177, 8, none⟩ = some (.int .i64 x178008_2) := (blk_cell BK177.out 8).trans rfl
                  have hfz35_0 := blk_frozen BK177.out 0
                  have hfz35_1 := blk_frozen BK177.out 1
                  have hfz35_2 := blk_frozen BK177.out 2
                  have hfz35_3 := blk_frozen BK177.out 3
                  have hfz35_4 := blk_frozen BK177.out 4
                  have hfz35_5 := blk_frozen BK177.out 5
                  have hfz35_6 := blk_frozen BK177.out 6
                  have hfz35_7 := blk_frozen BK177.out 7
                  have hfz35_8 := blk_frozen BK177.out 8
                  go_upto_region 18 with (first | ((with_reducible refine gate_callee (f := 16) rfl ?_); refine goesL_ (some 53) rfl rfl Try.func16 (by kernel_rfl) rfl #[.agg #[.int .i64 x178000_2, .int .i64 x178001_2, .int .i64 x178002_2, .int .i64 x178003_2, .int .i64 x178004_2, .int .i64 x178005_2, .int .i64 x178006_2, .int .i64 x178007_2, .int .i64 x178008_2], .int .i64 (wrap64 (a2))] rfl (by (try simp only [List.map_toArray, List.map_cons, List.map_nil]); first | done | rfl | (simp only [List.length_drop, List.length_take]; rfl)) ?_; (with_reducible refine (feed_Known_Tell.calls x178000_2 x178001_2 x178002_2 x178003_2 x178004_2 x178005_2 x178006_2 x178007_2 x178008_2 (wrap64 (a2)) t190 t191 t192 t193 t194 t195 t196 t197 t198 t199 _ A33.out).mono ?_); rintro e w36 ⟨rfl, hb⟩; refine ⟨_, rfl, ?_⟩; have n0_ := Aside0.mk (blk_below (g := gb177) (o := .cells #[.int .i64 x178000_2, .int .i64 x178001_2, .int .i64 x178002_2, .int .i64 x178003_2, .int .i64 x178004_2, .int .i64 x178005_2, .int .i64 x178006_2, .int .i64 x178007_2, .int .i64 x178008_2] 37 (0, 0)) (by (with_reducible repeat (first | refine blk_drewN ?_ _ | refine blk_drew ?_ | refine blk_alloc ?_ _)); exact BK177.out) hb); have n1_ := Aside0.mk (below_step (by repeat (first | (with_reducible first | exact HB.out | apply below_alloc | apply pw_below_drewN | apply below_drew1 | refine below_set ?_ GE177.out) | exact HB.out)) hb); clear BK177; clear HB; have BK177 := n0_; have HB := n1_; clear n0_ n1_; (try clear hb); (try clear hb2); (try clear hk); (try clear hi)) | ((with_reducible refine gate_dst (N := 14) rfl ?_); refine box_event ?hg (N := 14) ?hd (cs := #[.int .i64 0, .int .i64 0, .int .i64 0, .int .i64 0, .int .i64 0, .int .i64 0, .int .i64 0, .int .i64 0, .int .i64 0]) (t := 37) ?hr ?_; (case hd => rfl); (case hg => rfl); (case hr => first | (go_simp; done) | (go_simp; rfl)); intro gb200 hg w37 hbox hb; have n0_ := Aside0.mk (blk_below (g := gb177) (o := .cells #[.int .i64 x178000_2, .int .i64 x178001_2, .int .i64 x178002_2, .int .i64 x178003_2, .int .i64 x178004_2, .int .i64 x178005_2, .int .i64 x178006_2, .int .i64 x178007_2, .int .i64 x178008_2] 37 (0, 0)) (by (with_reducible repeat (first | refine blk_drewN ?_ _ | refine blk_drew ?_ | refine blk_alloc ?_ _)); exact BK177.out) hb); have n1_ := Aside0.mk (below_step (by repeat (first | (with_reducible first | exact HB.out | apply below_alloc | apply pw_below_drewN | apply below_drew1 | refine below_set ?_ GE177.out) | exact HB.out)) hb); have n2_ := Aside0.mk (hbox); have n3_ := Aside0.mk ((by rw [hg]; exact (below_size (by repeat (first | (with_reducible first | exact HB.out | apply below_alloc | apply pw_below_drewN | apply below_drew1 | refine below_set ?_ GE177.out) | exact HB.out))) : w.heap.size ≤ gb200)); have n4_ := Aside0.mk ((by rw [hg]; exact (below_size (by repeat (first | (with_reducible first | exact HB.out | apply below_alloc | apply pw_below_drewN | apply below_drew1 | refine below_set ?_ GE177.out) | exact HB.out))) : w.heap.size ≤ gb200)); have n5_ := Aside0.mk ((by rw [hg]; exact Nat.ne_of_lt (blk_lt (g := gb177) (o := .cells #[.int .i64 x178000_2, .int .i64 x178001_2, .int .i64 x178002_2, .int .i64 x178003_2, .int .i64 x178004_2, .int .i64 x178005_2, .int .i64 x178006_2, .int .i64 x178007_2, .int .i64 x178008_2] 37 (0, 0)) (by (with_reducible repeat (first | refine blk_drewN ?_ _ | refine blk_drew ?_ | refine blk_alloc ?_ _)); exact BK177.out)) : gb177 ≠ gb200)); have n6_ := Aside0.mk ((by rw [hg]; exact Nat.ne_of_gt (blk_lt (g := gb177) (o := .cells #[.int .i64 x178000_2, .int .i64 x178001_2, .int .i64 x178002_2, .int .i64 x178003_2, .int .i64 x178004_2, .int .i64 x178005_2, .int .i64 x178006_2, .int .i64 x178007_2, .int .i64 x178008_2] 37 (0, 0)) (by (with_reducible repeat (first | refine blk_drewN ?_ _ | refine blk_drew ?_ | refine blk_alloc ?_ _)); exact BK177.out)) : gb200 ≠ gb177)); clear BK177; clear HB; have BK177 := n0_; have HB := n1_; have BK200 := n2_; have GW200 := n3_; have GE200 := n4_; have NB177_200 := n5_; have NB200_177 := n6_; clear n0_ n1_ n2_ n3_ n4_ n5_ n6_; clear hb hbox hg; have hnb38 := NB200_177.out; have hnc38 := NB177_200.out; have hcz39_0 : w37.cell? ⟨gb200, 0, none⟩ = some (.int .i64 0) := (blk_cell BK200.out 0).trans rfl; have hcz39_1 : w37.cell? ⟨gb200, 1, none⟩ = some (.int .i64 0) := (blk_cell BK200.out 1).trans rfl; have hcz39_2 : w37.cell? ⟨gb200, 2, none⟩ = some (.int .i64 0) := (blk_cell BK200.out 2).trans rfl; have hcz39_3 : w37.cell? ⟨gb200, 3, none⟩ = some (.int .i64 0) := (blk_cell BK200.out 3).trans rfl; have hcz39_4 : w37.cell? ⟨gb200, 4, none⟩ = some (.int .i64 0) := (blk_cell BK200.out 4).trans rfl; have hcz39_5 : w37.cell? ⟨gb200, 5, none⟩ = some (.int .i64 0) := (blk_cell BK200.out 5).trans rfl; have hcz39_6 : w37.cell? ⟨gb200, 6, none⟩ = some (.int .i64 0) := (blk_cell BK200.out 6).trans rfl; have hcz39_7 : w37.cell? ⟨gb200, 7, none⟩ = some (.int .i64 0) := (blk_cell BK200.out 7).trans rfl; have hcz39_8 : w37.cell? ⟨gb200, 8, none⟩ = some (.int .i64 0) := (blk_cell BK200.out 8).trans rfl; have hfz39_0 := blk_frozen BK200.out 0; have hfz39_1 := blk_frozen BK200.out 1; have hfz39_2 := blk_frozen BK200.out 2; have hfz39_3 := blk_frozen BK200.out 3; have hfz39_4 := blk_frozen BK200.out 4; have hfz39_5 := blk_frozen BK200.out 5; have hfz39_6 := blk_frozen BK200.out 6; have hfz39_7 := blk_frozen BK200.out 7; have hfz39_8 := blk_frozen BK200.out 8; have hcz40_0 : w37.cell? ⟨gb177, 0, none⟩ = some (.int .i64 x178000_2) := (blk_cell BK177.out 0).trans rfl; have hcz40_1 : w37.cell? ⟨gb177, 1, none⟩ = some (.int .i64 x178001_2) := (blk_cell BK177.out 1).trans rfl; have hcz40_2 : w37.cell? ⟨gb177, 2, none⟩ = some (.int .i64 x178002_2) := (blk_cell BK177.out 2).trans rfl; have hcz40_3 : w37.cell? ⟨gb177, 3, none⟩ = some (.int .i64 x178003_2) := (blk_cell BK177.out 3).trans rfl; have hcz40_4 : w37.cell? ⟨gb177, 4, none⟩ = some (.int .i64 x178004_2) := (blk_cell BK177.out 4).trans rfl; have hcz40_5 : w37.cell? ⟨gb177, 5, none⟩ = some (.int .i64 x178005_2) := (blk_cell BK177.out 5).trans rfl; have hcz40_6 : w37.cell? ⟨gb177, 6, none⟩ = some (.int .i64 x178006_2) := (blk_cell BK177.out 6).trans rfl; have hcz40_7 : w37.cell? ⟨gb177, 7, none⟩ = some (.int .i64 x178007_2) := (blk_cell BK177.out 7).trans rfl; have hcz40_8 : w37.cell? ⟨gb177, 8, none⟩ = some (.int .i64 x178008_2) := (blk_cell BK177.out 8).trans rfl; have hfz40_0 := blk_frozen BK177.out 0; have hfz40_1 := blk_frozen BK177.out 1; have hfz40_2 := blk_frozen BK177.out 2; have hfz40_3 := blk_frozen BK177.out 3; have hfz40_4 := blk_frozen BK177.out 4; have hfz40_5 := blk_frozen BK177.out 5; have hfz40_6 := blk_frozen BK177.out 6; have hfz40_7 := blk_frozen BK177.out 7; have hfz40_8 := blk_frozen BK177.out 8))
                  (try simp only [Act.put, List.setIfInBounds_toArray, List.set_cons_zero, List.set_cons_succ])
                  go_cut [65] (fun v65 wc => ∃ (kq : Nat) (x65_33 : Bool), v65 = .bool x65_33 ∧ Aside0 (paternosterlaw10_FeedLags.j2 kq l1 a2 (wrap64 (Int.tmod a0 9)) x13_2 t199 x65_33 t190 t191 t192 t193 t194 t195 t196 t197 t198 = some r) ∧ Aside0 (kq ≤ k2) ∧ Aside0 (wc.heap[gb177]? = some (.cells #[.int .i64 t190, .int .i64 t191, .int .i64 t192, .int .i64 t193, .int .i64 t194, .int .i64 t195, .int .i64 t196, .int .i64 t197, .int .i64 t198] 37 (0, 0))) ∧ Aside0 (wc.heap[gb200]? = some (.cells #[.int .i64 t190, .int .i64 t191, .int .i64 t192, .int .i64 t193, .int .i64 t194, .int .i64 t195, .int .i64 t196, .int .i64 t197, .int .i64 t198] 37 (0, 0))) ∧ Aside0 (Below w.heap.size w wc))
                  case first =>
                    have H := HC34.out
                    clear HC34
                    by_cases c41 : x13_2 ≥ (wrap64 (Int.tmod a0 9))
                    · rw [if_pos c41] at H
                      have c41b0 : decide ((wrap64 (Int.tmod a0 9)) ≤ x13_2) = true := decide_eq_true c41
                      clear c41
                      (first | rw [c41b0] | (simp only [i64_w, i32_w]; rw [c41b0]) | skip)
                      have H' := Aside0.mk H
                      clear H
                      go_wp2
                      go_meet
                      case rel => exact ⟨_, ((t199 != (wrap64 (a2)))), (by first | rfl | (simp; done) | (simp [*]; done)), H', ⟨by have := HK1.out; have := HK2.out; first | omega | exact Nat.le_refl _⟩, ⟨by (with_reducible repeat (first | refine blk_drewN ?_ _ | refine blk_drew ?_ | refine blk_alloc ?_ _)); refine blk_put (cs := #[.int .i64 t190, .int .i64 t191, .int .i64 t192, .int .i64 t193, .int .i64 t194, .int .i64 t195, .int .i64 t196, .int .i64 t197, .int .i64 x178008_2]) ?_ 8 _ rfl; (with_reducible repeat (first | refine blk_drewN ?_ _ | refine blk_drew ?_ | refine blk_alloc ?_ _)); refine blk_put (cs := #[.int .i64 t190, .int .i64 t191, .int .i64 t192, .int .i64 t193, .int .i64 t194, .int .i64 t195, .int .i64 t196, .int .i64 x178007_2, .int .i64 x178008_2]) ?_ 7 _ rfl; (with_reducible repeat (first | refine blk_drewN ?_ _ | refine blk_drew ?_ | refine blk_alloc ?_ _)); refine blk_put (cs := #[.int .i64 t190, .int .i64 t191, .int .i64 t192, .int .i64 t193, .int .i64 t194, .int .i64 t195, .int .i64 x178006_2, .int .i64 x178007_2, .int .i64 x178008_2]) ?_ 6 _ rfl; (with_reducible repeat (first | refine blk_drewN ?_ _ | refine blk_drew ?_ | refine blk_alloc ?_ _)); refine blk_put (cs := #[.int .i64 t190, .int .i64 t191, .int .i64 t192, .int .i64 t193, .int .i64 t194, .int .i64 x178005_2, .int .i64 x178006_2, .int .i64 x178007_2, .int .i64 x178008_2]) ?_ 5 _ rfl; (with_reducible repeat (first | refine blk_drewN ?_ _ | refine blk_drew ?_ | refine blk_alloc ?_ _)); refine blk_put (cs := #[.int .i64 t190, .int .i64 t191, .int .i64 t192, .int .i64 t193, .int .i64 x178004_2, .int .i64 x178005_2, .int .i64 x178006_2, .int .i64 x178007_2, .int .i64 x178008_2]) ?_ 4 _ rfl; (with_reducible repeat (first | refine blk_drewN ?_ _ | refine blk_drew ?_ | refine blk_alloc ?_ _)); refine blk_put (cs := #[.int .i64 t190, .int .i64 t191, .int .i64 t192, .int .i64 x178003_2, .int .i64 x178004_2, .int .i64 x178005_2, .int .i64 x178006_2, .int .i64 x178007_2, .int .i64 x178008_2]) ?_ 3 _ rfl; (with_reducible repeat (first | refine blk_drewN ?_ _ | refine blk_drew ?_ | refine blk_alloc ?_ _)); refine blk_put (cs := #[.int .i64 t190, .int .i64 t191, .int .i64 x178002_2, .int .i64 x178003_2, .int .i64 x178004_2, .int .i64 x178005_2, .int .i64 x178006_2, .int .i64 x178007_2, .int .i64 x178008_2]) ?_ 2 _ rfl; (with_reducible repeat (first | refine blk_drewN ?_ _ | refine blk_drew ?_ | refine blk_alloc ?_ _)); refine blk_put (cs := #[.int .i64 t190, .int .i64 x178001_2, .int .i64 x178002_2, .int .i64 x178003_2, .int .i64 x178004_2, .int .i64 x178005_2, .int .i64 x178006_2, .int .i64 x178007_2, .int .i64 x178008_2]) ?_ 1 _ rfl; (with_reducible repeat (first | refine blk_drewN ?_ _ | refine blk_drew ?_ | refine blk_alloc ?_ _)); refine blk_put (cs := #[.int .i64 x178000_2, .int .i64 x178001_2, .int .i64 x178002_2, .int .i64 x178003_2, .int .i64 x178004_2, .int .i64 x178005_2, .int .i64 x178006_2, .int .i64 x178007_2, .int .i64 x178008_2]) ?_ 0 _ rfl; (with_reducible repeat (first | refine blk_drewN ?_ _ | refine blk_drew ?_ | refine blk_alloc ?_ _)); refine blk_far ?_ NB177_200.out _; (with_reducible repeat (first | refine blk_drewN ?_ _ | refine blk_drew ?_ | refine blk_alloc ?_ _)); refine blk_far ?_ NB177_200.out _; (with_reducible repeat (first | refine blk_drewN ?_ _ | refine blk_drew ?_ | refine blk_alloc ?_ _)); refine blk_far ?_ NB177_200.out _; (with_reducible repeat (first | refine blk_drewN ?_ _ | refine blk_drew ?_ | refine blk_alloc ?_ _)); refine blk_far ?_ NB177_200.out _; (with_reducible repeat (first | refine blk_drewN ?_ _ | refine blk_drew ?_ | refine blk_alloc ?_ _)); refine blk_far ?_ NB177_200.out _; (with_reducible repeat (first | refine blk_drewN ?_ _ | refine blk_drew ?_ | refine blk_alloc ?_ _)); refine blk_far ?_ NB177_200.out _; (with_reducible repeat (first | refine blk_drewN ?_ _ | refine blk_drew ?_ | refine blk_alloc ?_ _)); refine blk_far ?_ NB177_200.out _; (with_reducible repeat (first | refine blk_drewN ?_ _ | refine blk_drew ?_ | refine blk_alloc ?_ _)); refine blk_far ?_ NB177_200.out _; (with_reducible repeat (first | refine blk_drewN ?_ _ | refine blk_drew ?_ | refine blk_alloc ?_ _)); refine blk_far ?_ NB177_200.out _; (with_reducible repeat (first | refine blk_drewN ?_ _ | refine blk_drew ?_ | refine blk_alloc ?_ _)); exact BK177.out⟩, ⟨by (with_reducible repeat (first | refine blk_drewN ?_ _ | refine blk_drew ?_ | refine blk_alloc ?_ _)); refine blk_far ?_ NB200_177.out _; (with_reducible repeat (first | refine blk_drewN ?_ _ | refine blk_drew ?_ | refine blk_alloc ?_ _)); refine blk_far ?_ NB200_177.out _; (with_reducible repeat (first | refine blk_drewN ?_ _ | refine blk_drew ?_ | refine blk_alloc ?_ _)); refine blk_far ?_ NB200_177.out _; (with_reducible repeat (first | refine blk_drewN ?_ _ | refine blk_drew ?_ | refine blk_alloc ?_ _)); refine blk_far ?_ NB200_177.out _; (with_reducible repeat (first | refine blk_drewN ?_ _ | refine blk_drew ?_ | refine blk_alloc ?_ _)); refine blk_far ?_ NB200_177.out _; (with_reducible repeat (first | refine blk_drewN ?_ _ | refine blk_drew ?_ | refine blk_alloc ?_ _)); refine blk_far ?_ NB200_177.out _; (with_reducible repeat (first | refine blk_drewN ?_ _ | refine blk_drew ?_ | refine blk_alloc ?_ _)); refine blk_far ?_ NB200_177.out _; (with_reducible repeat (first | refine blk_drewN ?_ _ | refine blk_drew ?_ | refine blk_alloc ?_ _)); refine blk_far ?_ NB200_177.out _; (with_reducible repeat (first | refine blk_drewN ?_ _ | refine blk_drew ?_ | refine blk_alloc ?_ _)); refine blk_far ?_ NB200_177.out _; (with_reducible repeat (first | refine blk_drewN ?_ _ | refine blk_drew ?_ | refine blk_alloc ?_ _)); refine blk_put (cs := #[.int .i64 t190, .int .i64 t191, .int .i64 t192, .int .i64 t193, .int .i64 t194, .int .i64 t195, .int .i64 t196, .int .i64 t197, .int .i64 0]) ?_ 8 _ rfl; (with_reducible repeat (first | refine blk_drewN ?_ _ | refine blk_drew ?_ | refine blk_alloc ?_ _)); refine blk_put (cs := #[.int .i64 t190, .int .i64 t191, .int .i64 t192, .int .i64 t193, .int .i64 t194, .int .i64 t195, .int .i64 t196, .int .i64 0, .int .i64 0]) ?_ 7 _ rfl; (with_reducible repeat (first | refine blk_drewN ?_ _ | refine blk_drew ?_ | refine blk_alloc ?_ _)); refine blk_put (cs := #[.int .i64 t190, .int .i64 t191, .int .i64 t192, .int .i64 t193, .int .i64 t194, .int .i64 t195, .int .i64 0, .int .i64 0, .int .i64 0]) ?_ 6 _ rfl; (with_reducible repeat (first | refine blk_drewN ?_ _ | refine blk_drew ?_ | refine blk_alloc ?_ _)); refine blk_put (cs := #[.int .i64 t190, .int .i64 t191, .int .i64 t192, .int .i64 t193, .int .i64 t194, .int .i64 0, .int .i64 0, .int .i64 0, .int .i64 0]) ?_ 5 _ rfl; (with_reducible repeat (first | refine blk_drewN ?_ _ | refine blk_drew ?_ | refine blk_alloc ?_ _)); refine blk_put (cs := #[.int .i64 t190, .int .i64 t191, .int .i64 t192, .int .i64 t193, .int .i64 0, .int .i64 0, .int .i64 0, .int .i64 0, .int .i64 0]) ?_ 4 _ rfl; (with_reducible repeat (first | refine blk_drewN ?_ _ | refine blk_drew ?_ | refine blk_alloc ?_ _)); refine blk_put (cs := #[.int .i64 t190, .int .i64 t191, .int .i64 t192, .int .i64 0, .int .i64 0, .int .i64 0, .int .i64 0, .int .i64 0, .int .i64 0]) ?_ 3 _ rfl; (with_reducible repeat (first | refine blk_drewN ?_ _ | refine blk_drew ?_ | refine blk_alloc ?_ _)); refine blk_put (cs := #[.int .i64 t190, .int .i64 t191, .int .i64 0, .int .i64 0, .int .i64 0, .int .i64 0, .int .i64 0, .int .i64 0, .int .i64 0]) ?_ 2 _ rfl; (with_reducible repeat (first | refine blk_drewN ?_ _ | refine blk_drew ?_ | refine blk_alloc ?_ _)); refine blk_put (cs := #[.int .i64 t190, .int .i64 0, .int .i64 0, .int .i64 0, .int .i64 0, .int .i64 0, .int .i64 0, .int .i64 0, .int .i64 0]) ?_ 1 _ rfl; (with_reducible repeat (first | refine blk_drewN ?_ _ | refine blk_drew ?_ | refine blk_alloc ?_ _)); refine blk_put (cs := #[.int .i64 0, .int .i64 0, .int .i64 0, .int .i64 0, .int .i64 0, .int .i64 0, .int .i64 0, .int .i64 0, .int .i64 0]) ?_ 0 _ rfl; (with_reducible repeat (first | refine blk_drewN ?_ _ | refine blk_drew ?_ | refine blk_alloc ?_ _)); exact BK200.out⟩, ⟨by repeat (first | (with_reducible first | exact HB.out | apply below_alloc | apply pw_below_drewN | apply below_drew1 | refine below_set ?_ GE177.out | refine below_set ?_ GE200.out) | exact HB.out)⟩⟩
                    · rw [if_neg c41] at H
                      have c41b0 : decide ((wrap64 (Int.tmod a0 9)) ≤ x13_2) = false := decide_eq_false c41
                      clear c41
                      (first | rw [c41b0] | (simp only [i64_w, i32_w]; rw [c41b0]) | skip)
                      have H' := Aside0.mk H
                      clear H
                      go_wp2
                      go_meet
                      case rel => exact ⟨_, (false), (by first | rfl | (simp; done) | (simp [*]; done)), H', ⟨by have := HK1.out; have := HK2.out; first | omega | exact Nat.le_refl _⟩, ⟨by (with_reducible repeat (first | refine blk_drewN ?_ _ | refine blk_drew ?_ | refine blk_alloc ?_ _)); refine blk_put (cs := #[.int .i64 t190, .int .i64 t191, .int .i64 t192, .int .i64 t193, .int .i64 t194, .int .i64 t195, .int .i64 t196, .int .i64 t197, .int .i64 x178008_2]) ?_ 8 _ rfl; (with_reducible repeat (first | refine blk_drewN ?_ _ | refine blk_drew ?_ | refine blk_alloc ?_ _)); refine blk_put (cs := #[.int .i64 t190, .int .i64 t191, .int .i64 t192, .int .i64 t193, .int .i64 t194, .int .i64 t195, .int .i64 t196, .int .i64 x178007_2, .int .i64 x178008_2]) ?_ 7 _ rfl; (with_reducible repeat (first | refine blk_drewN ?_ _ | refine blk_drew ?_ | refine blk_alloc ?_ _)); refine blk_put (cs := #[.int .i64 t190, .int .i64 t191, .int .i64 t192, .int .i64 t193, .int .i64 t194, .int .i64 t195, .int .i64 x178006_2, .int .i64 x178007_2, .int .i64 x178008_2]) ?_ 6 _ rfl; (with_reducible repeat (first | refine blk_drewN ?_ _ | refine blk_drew ?_ | refine blk_alloc ?_ _)); refine blk_put (cs := #[.int .i64 t190, .int .i64 t191, .int .i64 t192, .int .i64 t193, .int .i64 t194, .int .i64 x178005_2, .int .i64 x178006_2, .int .i64 x178007_2, .int .i64 x178008_2]) ?_ 5 _ rfl; (with_reducible repeat (first | refine blk_drewN ?_ _ | refine blk_drew ?_ | refine blk_alloc ?_ _)); refine blk_put (cs := #[.int .i64 t190, .int .i64 t191, .int .i64 t192, .int .i64 t193, .int .i64 x178004_2, .int .i64 x178005_2, .int .i64 x178006_2, .int .i64 x178007_2, .int .i64 x178008_2]) ?_ 4 _ rfl; (with_reducible repeat (first | refine blk_drewN ?_ _ | refine blk_drew ?_ | refine blk_alloc ?_ _)); refine blk_put (cs := #[.int .i64 t190, .int .i64 t191, .int .i64 t192, .int .i64 x178003_2, .int .i64 x178004_2, .int .i64 x178005_2, .int .i64 x178006_2, .int .i64 x178007_2, .int .i64 x178008_2]) ?_ 3 _ rfl; (with_reducible repeat (first | refine blk_drewN ?_ _ | refine blk_drew ?_ | refine blk_alloc ?_ _)); refine blk_put (cs := #[.int .i64 t190, .int .i64 t191, .int .i64 x178002_2, .int .i64 x178003_2, .int .i64 x178004_2, .int .i64 x178005_2, .int .i64 x178006_2, .int .i64 x178007_2, .int .i64 x178008_2]) ?_ 2 _ rfl; (with_reducible repeat (first | refine blk_drewN ?_ _ | refine blk_drew ?_ | refine blk_alloc ?_ _)); refine blk_put (cs := #[.int .i64 t190, .int .i64 x178001_2, .int .i64 x178002_2, .int .i64 x178003_2, .int .i64 x178004_2, .int .i64 x178005_2, .int .i64 x178006_2, .int .i64 x178007_2, .int .i64 x178008_2]) ?_ 1 _ rfl; (with_reducible repeat (first | refine blk_drewN ?_ _ | refine blk_drew ?_ | refine blk_alloc ?_ _)); refine blk_put (cs := #[.int .i64 x178000_2, .int .i64 x178001_2, .int .i64 x178002_2, .int .i64 x178003_2, .int .i64 x178004_2, .int .i64 x178005_2, .int .i64 x178006_2, .int .i64 x178007_2, .int .i64 x178008_2]) ?_ 0 _ rfl; (with_reducible repeat (first | refine blk_drewN ?_ _ | refine blk_drew ?_ | refine blk_alloc ?_ _)); refine blk_far ?_ NB177_200.out _; (with_reducible repeat (first | refine blk_drewN ?_ _ | refine blk_drew ?_ | refine blk_alloc ?_ _)); refine blk_far ?_ NB177_200.out _; (with_reducible repeat (first | refine blk_drewN ?_ _ | refine blk_drew ?_ | refine blk_alloc ?_ _)); refine blk_far ?_ NB177_200.out _; (with_reducible repeat (first | refine blk_drewN ?_ _ | refine blk_drew ?_ | refine blk_alloc ?_ _)); refine blk_far ?_ NB177_200.out _; (with_reducible repeat (first | refine blk_drewN ?_ _ | refine blk_drew ?_ | refine blk_alloc ?_ _)); refine blk_far ?_ NB177_200.out _; (with_reducible repeat (first | refine blk_drewN ?_ _ | refine blk_drew ?_ | refine blk_alloc ?_ _)); refine blk_far ?_ NB177_200.out _; (with_reducible repeat (first | refine blk_drewN ?_ _ | refine blk_drew ?_ | refine blk_alloc ?_ _)); refine blk_far ?_ NB177_200.out _; (with_reducible repeat (first | refine blk_drewN ?_ _ | refine blk_drew ?_ | refine blk_alloc ?_ _)); refine blk_far ?_ NB177_200.out _; (with_reducible repeat (first | refine blk_drewN ?_ _ | refine blk_drew ?_ | refine blk_alloc ?_ _)); refine blk_far ?_ NB177_200.out _; (with_reducible repeat (first | refine blk_drewN ?_ _ | refine blk_drew ?_ | refine blk_alloc ?_ _)); exact BK177.out⟩, ⟨by (with_reducible repeat (first | refine blk_drewN ?_ _ | refine blk_drew ?_ | refine blk_alloc ?_ _)); refine blk_far ?_ NB200_177.out _; (with_reducible repeat (first | refine blk_drewN ?_ _ | refine blk_drew ?_ | refine blk_alloc ?_ _)); refine blk_far ?_ NB200_177.out _; (with_reducible repeat (first | refine blk_drewN ?_ _ | refine blk_drew ?_ | refine blk_alloc ?_ _)); refine blk_far ?_ NB200_177.out _; (with_reducible repeat (first | refine blk_drewN ?_ _ | refine blk_drew ?_ | refine blk_alloc ?_ _)); refine blk_far ?_ NB200_177.out _; (with_reducible repeat (first | refine blk_drewN ?_ _ | refine blk_drew ?_ | refine blk_alloc ?_ _)); refine blk_far ?_ NB200_177.out _; (with_reducible repeat (first | refine blk_drewN ?_ _ | refine blk_drew ?_ | refine blk_alloc ?_ _)); refine blk_far ?_ NB200_177.out _; (with_reducible repeat (first | refine blk_drewN ?_ _ | refine blk_drew ?_ | refine blk_alloc ?_ _)); refine blk_far ?_ NB200_177.out _; (with_reducible repeat (first | refine blk_drewN ?_ _ | refine blk_drew ?_ | refine blk_alloc ?_ _)); refine blk_far ?_ NB200_177.out _; (with_reducible repeat (first | refine blk_drewN ?_ _ | refine blk_drew ?_ | refine blk_alloc ?_ _)); refine blk_far ?_ NB200_177.out _; (with_reducible repeat (first | refine blk_drewN ?_ _ | refine blk_drew ?_ | refine blk_alloc ?_ _)); refine blk_put (cs := #[.int .i64 t190, .int .i64 t191, .int .i64 t192, .int .i64 t193, .int .i64 t194, .int .i64 t195, .int .i64 t196, .int .i64 t197, .int .i64 0]) ?_ 8 _ rfl; (with_reducible repeat (first | refine blk_drewN ?_ _ | refine blk_drew ?_ | refine blk_alloc ?_ _)); refine blk_put (cs := #[.int .i64 t190, .int .i64 t191, .int .i64 t192, .int .i64 t193, .int .i64 t194, .int .i64 t195, .int .i64 t196, .int .i64 0, .int .i64 0]) ?_ 7 _ rfl; (with_reducible repeat (first | refine blk_drewN ?_ _ | refine blk_drew ?_ | refine blk_alloc ?_ _)); refine blk_put (cs := #[.int .i64 t190, .int .i64 t191, .int .i64 t192, .int .i64 t193, .int .i64 t194, .int .i64 t195, .int .i64 0, .int .i64 0, .int .i64 0]) ?_ 6 _ rfl; (with_reducible repeat (first | refine blk_drewN ?_ _ | refine blk_drew ?_ | refine blk_alloc ?_ _)); refine blk_put (cs := #[.int .i64 t190, .int .i64 t191, .int .i64 t192, .int .i64 t193, .int .i64 t194, .int .i64 0, .int .i64 0, .int .i64 0, .int .i64 0]) ?_ 5 _ rfl; (with_reducible repeat (first | refine blk_drewN ?_ _ | refine blk_drew ?_ | refine blk_alloc ?_ _)); refine blk_put (cs := #[.int .i64 t190, .int .i64 t191, .int .i64 t192, .int .i64 t193, .int .i64 0, .int .i64 0, .int .i64 0, .int .i64 0, .int .i64 0]) ?_ 4 _ rfl; (with_reducible repeat (first | refine blk_drewN ?_ _ | refine blk_drew ?_ | refine blk_alloc ?_ _)); refine blk_put (cs := #[.int .i64 t190, .int .i64 t191, .int .i64 t192, .int .i64 0, .int .i64 0, .int .i64 0, .int .i64 0, .int .i64 0, .int .i64 0]) ?_ 3 _ rfl; (with_reducible repeat (first | refine blk_drewN ?_ _ | refine blk_drew ?_ | refine blk_alloc ?_ _)); refine blk_put (cs := #[.int .i64 t190, .int .i64 t191, .int .i64 0, .int .i64 0, .int .i64 0, .int .i64 0, .int .i64 0, .int .i64 0, .int .i64 0]) ?_ 2 _ rfl; (with_reducible repeat (first | refine blk_drewN ?_ _ | refine blk_drew ?_ | refine blk_alloc ?_ _)); refine blk_put (cs := #[.int .i64 t190, .int .i64 0, .int .i64 0, .int .i64 0, .int .i64 0, .int .i64 0, .int .i64 0, .int .i64 0, .int .i64 0]) ?_ 1 _ rfl; (with_reducible repeat (first | refine blk_drewN ?_ _ | refine blk_drew ?_ | refine blk_alloc ?_ _)); refine blk_put (cs := #[.int .i64 0, .int .i64 0, .int .i64 0, .int .i64 0, .int .i64 0, .int .i64 0, .int .i64 0, .int .i64 0, .int .i64 0]) ?_ 0 _ rfl; (with_reducible repeat (first | refine blk_drewN ?_ _ | refine blk_drew ?_ | refine blk_alloc ?_ _)); exact BK200.out⟩, ⟨by repeat (first | (with_reducible first | exact HB.out | apply below_alloc | apply pw_below_drewN | apply below_drew1 | refine below_set ?_ GE177.out | refine below_set ?_ GE200.out) | exact HB.out)⟩⟩
                  case rest =>
                    clear HC34
                    try clear c1
                    try clear p1
                    try clear q1
                    try clear hx1
                    try clear c2
                    try clear p2
                    try clear c3
                    try clear c4
                    try clear c5
                    try clear c6
                    try clear c6b0
                    try clear c6b1
                    try clear p6
                    try clear c9
                    try clear c13
                    try clear c13b0
                    try clear c14
                    try clear c14b0
                    try clear c15
                    try clear c16
                    try clear p17
                    try clear q17
                    try clear hx17
                    try clear c29
                    try clear c32
                    try clear c32b0
                    try clear c38
                    try clear c41
                    try clear c41b0
                    try clear hcz12_0
                    try clear hcz12_1
                    try clear hcz12_2
                    try clear hcz12_3
                    try clear hcz12_4
                    try clear hcz12_5
                    try clear hcz12_6
                    try clear hcz12_7
                    try clear hcz12_8
                    try clear hcz30_0
                    try clear hcz30_1
                    try clear hcz30_2
                    try clear hcz30_3
                    try clear hcz30_4
                    try clear hcz30_5
                    try clear hcz30_6
                    try clear hcz30_7
                    try clear hcz30_8
                    try clear hcz31_0
                    try clear hcz31_1
                    try clear hcz31_2
                    try clear hcz31_3
                    try clear hcz31_4
                    try clear hcz31_5
                    try clear hcz31_6
                    try clear hcz31_7
                    try clear hcz31_8
                    try clear hcz35_0
                    try clear hcz35_1
                    try clear hcz35_2
                    try clear hcz35_3
                    try clear hcz35_4
                    try clear hcz35_5
                    try clear hcz35_6
                    try clear hcz35_7
                    try clear hcz35_8
                    try clear hcz39_0
                    try clear hcz39_1
                    try clear hcz39_2
                    try clear hcz39_3
                    try clear hcz39_4
                    try clear hcz39_5
                    try clear hcz39_6
                    try clear hcz39_7
                    try clear hcz39_8
                    try clear hcz40_0
                    try clear hcz40_1
                    try clear hcz40_2
                    try clear hcz40_3
                    try clear hcz40_4
                    try clear hcz40_5
                    try clear hcz40_6
                    try clear hcz40_7
                    try clear hcz40_8
                    try clear hfz12_0
                    try clear hfz12_1
                    try clear hfz12_2
                    try clear hfz12_3
                    try clear hfz12_4
                    try clear hfz12_5
                    try clear hfz12_6
                    try clear hfz12_7
                    try clear hfz12_8
                    try clear hfz30_0
                    try clear hfz30_1
                    try clear hfz30_2
                    try clear hfz30_3
                    try clear hfz30_4
                    try clear hfz30_5
                    try clear hfz30_6
                    try clear hfz30_7
                    try clear hfz30_8
                    try clear hfz31_0
                    try clear hfz31_1
                    try clear hfz31_2
                    try clear hfz31_3
                    try clear hfz31_4
                    try clear hfz31_5
                    try clear hfz31_6
                    try clear hfz31_7
                    try clear hfz31_8
                    try clear hfz35_0
                    try clear hfz35_1
                    try clear hfz35_2
                    try clear hfz35_3
                    try clear hfz35_4
                    try clear hfz35_5
                    try clear hfz35_6
                    try clear hfz35_7
                    try clear hfz35_8
                    try clear hfz39_0
                    try clear hfz39_1
                    try clear hfz39_2
                    try clear hfz39_3
                    try clear hfz39_4
                    try clear hfz39_5
                    try clear hfz39_6
                    try clear hfz39_7
                    try clear hfz39_8
                    try clear hfz40_0
                    try clear hfz40_1
                    try clear hfz40_2
                    try clear hfz40_3
                    try clear hfz40_4
                    try clear hfz40_5
                    try clear hfz40_6
                    try clear hfz40_7
                    try clear hfz40_8
                    try clear hx178_0
                    try clear p1
                    try clear p17
                    try clear p178
                    try clear p2
                    try clear p6
                    try clear q1
                    try clear q17
                    try clear q178
                    obtain ⟨kq, x65_33, rfl, HA, HJ33, BK177, BK200, HB⟩ := hcut
                    cases kq with
                    | zero => exact absurd HA.out (by simp [paternosterlaw10_FeedLags.j2])
                    | succ kj33 =>
                      have H := HA.out
                      clear HA
                      simp only [paternosterlaw10_FeedLags.j2] at H
                      by_cases c42 : x65_33 = true
                      · subst c42
                        have H1 : (some false) = some r := by rw [if_pos rfl] at H; exact H
                        clear H
                        have H := H1
                        clear H1
                        obtain rfl := Option.some.inj H
                        go_wp2
                        go_ret
                        exact ⟨by first | rfl | (simp [errW_none, errW_some] <;> rfl) | (simp [*, errW_none, errW_some] <;> rfl), by repeat (first | (with_reducible first | exact HB.out | apply below_alloc | apply pw_below_drewN | apply below_drew1 | refine below_set ?_ GE177.out | refine below_set ?_ GE200.out) | exact HB.out)⟩
                      · replace c42 := Bool.eq_false_iff.mpr c42
                        subst c42
                        have H1 : (if x13_2 < (wrap64 (Int.tmod a0 9)) then (if (wrap64 ((wrap64 ((l1.length : Int) + x13_2)) - (wrap64 (Int.tmod a0 9)))) ≥ 0 then (if 0 ≤ (wrap64 ((wrap64 ((l1.length : Int) + x13_2)) - (wrap64 (Int.tmod a0 9)))) then (if (wrap64 ((wrap64 ((l1.length : Int) + x13_2)) - (wrap64 (Int.tmod a0 9)))) < (l1.length : Int) then (if t199 = (wrap64 (rd l1 (wrap64 ((wrap64 ((l1.length : Int) + x13_2)) - (wrap64 (Int.tmod a0 9)))))) then (if (wrap64 ((wrap64 ((l1.length : Int) + x13_2)) - (wrap64 (Int.tmod a0 9)))) < 0 then (if t199 = 0 then (paternosterlaw10_FeedLags.l1 kj33 l1 a2 (wrap64 (Int.tmod a0 9)) (wrap64 (x13_2 + 1)) t190 t191 t192 t193 t194 t195 t196 t197 t198) else (some false)) else (paternosterlaw10_FeedLags.l1 kj33 l1 a2 (wrap64 (Int.tmod a0 9)) (wrap64 (x13_2 + 1)) t190 t191 t192 t193 t194 t195 t196 t197 t198)) else (some false)) else (none)) else (none)) else (if (wrap64 ((wrap64 ((l1.length : Int) + x13_2)) - (wrap64 (Int.tmod a0 9)))) < 0 then (if t199 = 0 then (paternosterlaw10_FeedLags.l1 kj33 l1 a2 (wrap64 (Int.tmod a0 9)) (wrap64 (x13_2 + 1)) t190 t191 t192 t193 t194 t195 t196 t197 t198) else (some false)) else (paternosterlaw10_FeedLags.l1 kj33 l1 a2 (wrap64 (Int.tmod a0 9)) (wrap64 (x13_2 + 1)) t190 t191 t192 t193 t194 t195 t196 t197 t198))) else (if (wrap64 ((wrap64 ((l1.length : Int) + x13_2)) - (wrap64 (Int.tmod a0 9)))) < 0 then (if t199 = 0 then (paternosterlaw10_FeedLags.l1 kj33 l1 a2 (wrap64 (Int.tmod a0 9)) (wrap64 (x13_2 + 1)) t190 t191 t192 t193 t194 t195 t196 t197 t198) else (some false)) else (paternosterlaw10_FeedLags.l1 kj33 l1 a2 (wrap64 (Int.tmod a0 9)) (wrap64 (x13_2 + 1)) t190 t191 t192 t193 t194 t195 t196 t197 t198))) = some r := by rw [if_neg (show ¬ (false = true) by decide)] at H; exact H
                        clear H
                        have H := H1
                        clear H1
                        by_cases c43 : x13_2 < (wrap64 (Int.tmod a0 9))
                        · rw [if_pos c43] at H
                          have c43b0 : decide (x13_2 < (wrap64 (Int.tmod a0 9))) = true := decide_eq_true c43
                          clear c43
                          by_cases c44 : (wrap64 ((wrap64 ((l1.length : Int) + x13_2)) - (wrap64 (Int.tmod a0 9)))) ≥ 0
                          · rw [if_pos c44] at H
                            have c44b0 : decide (0 ≤ (wrap64 ((wrap64 ((l1.length : Int) + x13_2)) - (wrap64 (Int.tmod a0 9))))) = true := decide_eq_true c44
                            clear c44
                            obtain ⟨ji45, hji45⟩ : ∃ j_ : Int, (wrap64 ((wrap64 ((l1.length : Int) + x13_2)) - (wrap64 (Int.tmod a0 9)))) = j_ := ⟨_, rfl⟩
                            replace H : (if 0 ≤ (ji45) then (if (ji45) < (l1.length : Int) then (if t199 = (wrap64 (rd l1 (ji45))) then (if (ji45) < 0 then (if t199 = 0 then (paternosterlaw10_FeedLags.l1 kj33 l1 a2 (wrap64 (Int.tmod a0 9)) (wrap64 (x13_2 + 1)) t190 t191 t192 t193 t194 t195 t196 t197 t198) else (some false)) else (paternosterlaw10_FeedLags.l1 kj33 l1 a2 (wrap64 (Int.tmod a0 9)) (wrap64 (x13_2 + 1)) t190 t191 t192 t193 t194 t195 t196 t197 t198)) else (some false)) else (none)) else (none)) = some r := by first | (rw [hji45] at H; exact H) | (simp only [hji45] at H ⊢; exact H)
                            (try rw [hji45] at c44b0)
                            have hji45w : (IntKind.i64.wrap ((wrap64 ((l1.length : Int) + x13_2)) - (wrap64 (Int.tmod a0 9)))) = ji45 := (i64_w _).trans hji45
                            by_cases c46 : 0 ≤ (ji45)
                            · rw [if_pos c46] at H
                              have c46b0 : decide (0 ≤ (ji45)) = true := decide_eq_true c46
                              clear c46
                              by_cases c47 : (ji45) < (l1.length : Int)
                              · rw [if_pos c47] at H
                                have c47b0 : decide ((ji45) < (l1.length : Int)) = true := decide_eq_true c47
                                clear c47
                                by_cases c48 : t199 = (wrap64 (rd l1 (ji45)))
                                · rw [if_pos c48] at H
                                  have c48b0 : (t199 == (wrap64 (rd l1 (ji45)))) = true := beq_iff_eq.mpr c48
                                  have c48b1 : (t199 != (wrap64 (rd l1 (ji45)))) = false := bne_eq_false_iff_eq.mpr c48
                                  clear c48
                                  by_cases c49 : (ji45) < 0
                                  · rw [if_pos c49] at H
                                    have c49b0 : decide ((ji45) < 0) = true := decide_eq_true c49
                                    clear c49
                                    by_cases c50 : t199 = 0
                                    · rw [if_pos c50] at H
                                      have c50b0 : (t199 == 0) = true := beq_iff_eq.mpr c50
                                      have c50b1 : (t199 != 0) = false := bne_eq_false_iff_eq.mpr c50
                                      clear c50
                                      have H' := Aside0.mk H
                                      clear H
                                      have p201 : 0 ≤ ((ji45) : Int) := of_decide_eq_true (by first | (with_reducible assumption) | assumption)
                                      have q201 : (ji45) < (l1.length : Int) := of_decide_eq_true (by first | (with_reducible assumption) | assumption)
                                      obtain ⟨ad201, e201, hx201_0⟩ := Kd.at_int HR1.out (ji45) p201 q201
                                      cases e201
                                      replace hx201_0 := (HB.out.cell (World.block_lt_of_cell? w _ hx201_0)).trans hx201_0
                                      replace p201 := eq_true p201
                                      replace q201 := eq_true q201
                                      go_wp2
                                      go_roundg kj33
                                      case measure => have := HK1.out; have := HK2.out; have := HJ33.out; omega
                                      case rel => exact ⟨(wrap64 (x13_2 + 1)), (t190), (t191), (t192), (t193), (t194), (t195), (t196), (t197), (t198), (by first | rfl | (simp; done) | (simp [*]; done)), H', ⟨by have := HK1.out; have := HK2.out; have := HJ33.out; omega⟩, ⟨by (with_reducible repeat (first | refine blk_drewN ?_ _ | refine blk_drew ?_ | refine blk_alloc ?_ _)); exact BK177.out⟩, ⟨by repeat (first | (with_reducible first | exact HB.out | apply below_alloc | apply pw_below_drewN | apply below_drew1 | refine below_set ?_ GE177.out | refine below_set ?_ GE200.out) | exact HB.out)⟩⟩
                                    · rw [if_neg c50] at H
                                      have c50b0 : (t199 == 0) = false := beq_eq_false_iff_ne.mpr c50
                                      have c50b1 : (t199 != 0) = true := bne_iff_ne.mpr c50
                                      obtain rfl := Option.some.inj H
                                      have p201 : 0 ≤ ((ji45) : Int) := of_decide_eq_true (by first | (with_reducible assumption) | assumption)
                                      have q201 : (ji45) < (l1.length : Int) := of_decide_eq_true (by first | (with_reducible assumption) | assumption)
                                      obtain ⟨ad201, e201, hx201_0⟩ := Kd.at_int HR1.out (ji45) p201 q201
                                      cases e201
                                      replace hx201_0 := (HB.out.cell (World.block_lt_of_cell? w _ hx201_0)).trans hx201_0
                                      replace p201 := eq_true p201
                                      replace q201 := eq_true q201
                                      go_wp2
                                      go_ret
                                      exact ⟨by first | rfl | (simp [errW_none, errW_some] <;> rfl) | (simp only [← hji45]; first | rfl | (simp [errW_none, errW_some] <;> rfl)) | (simp [*, errW_none, errW_some] <;> rfl), by repeat (first | (with_reducible first | exact HB.out | apply below_alloc | apply pw_below_drewN | apply below_drew1 | refine below_set ?_ GE177.out | refine below_set ?_ GE200.out) | exact HB.out)⟩
                                  · rw [if_neg c49] at H
                                    have c49b0 : decide ((ji45) < 0) = false := decide_eq_false c49
                                    clear c49
                                    have H' := Aside0.mk H
                                    clear H
                                    have p201 : 0 ≤ ((ji45) : Int) := of_decide_eq_true (by first | (with_reducible assumption) | assumption)
                                    have q201 : (ji45) < (l1.length : Int) := of_decide_eq_true (by first | (with_reducible assumption) | assumption)
                                    obtain ⟨ad201, e201, hx201_0⟩ := Kd.at_int HR1.out (ji45) p201 q201
                                    cases e201
                                    replace hx201_0 := (HB.out.cell (World.block_lt_of_cell? w _ hx201_0)).trans hx201_0
                                    replace p201 := eq_true p201
                                    replace q201 := eq_true q201
                                    go_wp2
                                    go_roundg kj33
                                    case measure => have := HK1.out; have := HK2.out; have := HJ33.out; omega
                                    case rel => exact ⟨(wrap64 (x13_2 + 1)), (t190), (t191), (t192), (t193), (t194), (t195), (t196), (t197), (t198), (by first | rfl | (simp; done) | (simp [*]; done)), H', ⟨by have := HK1.out; have := HK2.out; have := HJ33.out; omega⟩, ⟨by (with_reducible repeat (first | refine blk_drewN ?_ _ | refine blk_drew ?_ | refine blk_alloc ?_ _)); exact BK177.out⟩, ⟨by repeat (first | (with_reducible first | exact HB.out | apply below_alloc | apply pw_below_drewN | apply below_drew1 | refine below_set ?_ GE177.out | refine below_set ?_ GE200.out) | exact HB.out)⟩⟩
                                · rw [if_neg c48] at H
                                  have c48b0 : (t199 == (wrap64 (rd l1 (ji45)))) = false := beq_eq_false_iff_ne.mpr c48
                                  have c48b1 : (t199 != (wrap64 (rd l1 (ji45)))) = true := bne_iff_ne.mpr c48
                                  obtain rfl := Option.some.inj H
                                  have p201 : 0 ≤ ((ji45) : Int) := of_decide_eq_true (by first | (with_reducible assumption) | assumption)
                                  have q201 : (ji45) < (l1.length : Int) := of_decide_eq_true (by first | (with_reducible assumption) | assumption)
                                  obtain ⟨ad201, e201, hx201_0⟩ := Kd.at_int HR1.out (ji45) p201 q201
                                  cases e201
                                  replace hx201_0 := (HB.out.cell (World.block_lt_of_cell? w _ hx201_0)).trans hx201_0
                                  replace p201 := eq_true p201
                                  replace q201 := eq_true q201
                                  go_wp2
                                  go_ret
                                  exact ⟨by first | rfl | (simp [errW_none, errW_some] <;> rfl) | (simp only [← hji45]; first | rfl | (simp [errW_none, errW_some] <;> rfl)) | (simp [*, errW_none, errW_some] <;> rfl), by repeat (first | (with_reducible first | exact HB.out | apply below_alloc | apply pw_below_drewN | apply below_drew1 | refine below_set ?_ GE177.out | refine below_set ?_ GE200.out) | exact HB.out)⟩
                              · rw [if_neg c47] at H
                                exact absurd H (by simp)
                            · rw [if_neg c46] at H
                              exact absurd H (by simp)
                          · rw [if_neg c44] at H
                            have c44b0 : decide (0 ≤ (wrap64 ((wrap64 ((l1.length : Int) + x13_2)) - (wrap64 (Int.tmod a0 9))))) = false := decide_eq_false c44
                            clear c44
                            by_cases c51 : (wrap64 ((wrap64 ((l1.length : Int) + x13_2)) - (wrap64 (Int.tmod a0 9)))) < 0
                            · rw [if_pos c51] at H
                              have c51b0 : decide ((wrap64 ((wrap64 ((l1.length : Int) + x13_2)) - (wrap64 (Int.tmod a0 9)))) < 0) = true := decide_eq_true c51
                              clear c51
                              by_cases c52 : t199 = 0
                              · rw [if_pos c52] at H
                                have c52b0 : (t199 == 0) = true := beq_iff_eq.mpr c52
                                have c52b1 : (t199 != 0) = false := bne_eq_false_iff_eq.mpr c52
                                clear c52
                                have H' := Aside0.mk H
                                clear H
                                go_wp2
                                go_roundg kj33
                                case measure => have := HK1.out; have := HK2.out; have := HJ33.out; omega
                                case rel => exact ⟨(wrap64 (x13_2 + 1)), (t190), (t191), (t192), (t193), (t194), (t195), (t196), (t197), (t198), (by first | rfl | (simp; done) | (simp [*]; done)), H', ⟨by have := HK1.out; have := HK2.out; have := HJ33.out; omega⟩, ⟨by (with_reducible repeat (first | refine blk_drewN ?_ _ | refine blk_drew ?_ | refine blk_alloc ?_ _)); exact BK177.out⟩, ⟨by repeat (first | (with_reducible first | exact HB.out | apply below_alloc | apply pw_below_drewN | apply below_drew1 | refine below_set ?_ GE177.out | refine below_set ?_ GE200.out) | exact HB.out)⟩⟩
                              · rw [if_neg c52] at H
                                have c52b0 : (t199 == 0) = false := beq_eq_false_iff_ne.mpr c52
                                have c52b1 : (t199 != 0) = true := bne_iff_ne.mpr c52
                                obtain rfl := Option.some.inj H
                                go_wp2
                                go_ret
                                exact ⟨by first | rfl | (simp [errW_none, errW_some] <;> rfl) | (simp [*, errW_none, errW_some] <;> rfl), by repeat (first | (with_reducible first | exact HB.out | apply below_alloc | apply pw_below_drewN | apply below_drew1 | refine below_set ?_ GE177.out | refine below_set ?_ GE200.out) | exact HB.out)⟩
                            · rw [if_neg c51] at H
                              have c51b0 : decide ((wrap64 ((wrap64 ((l1.length : Int) + x13_2)) - (wrap64 (Int.tmod a0 9)))) < 0) = false := decide_eq_false c51
                              clear c51
                              have H' := Aside0.mk H
                              clear H
                              go_wp2
                              go_roundg kj33
                              case measure => have := HK1.out; have := HK2.out; have := HJ33.out; omega
                              case rel => exact ⟨(wrap64 (x13_2 + 1)), (t190), (t191), (t192), (t193), (t194), (t195), (t196), (t197), (t198), (by first | rfl | (simp; done) | (simp [*]; done)), H', ⟨by have := HK1.out; have := HK2.out; have := HJ33.out; omega⟩, ⟨by (with_reducible repeat (first | refine blk_drewN ?_ _ | refine blk_drew ?_ | refine blk_alloc ?_ _)); exact BK177.out⟩, ⟨by repeat (first | (with_reducible first | exact HB.out | apply below_alloc | apply pw_below_drewN | apply below_drew1 | refine below_set ?_ GE177.out | refine below_set ?_ GE200.out) | exact HB.out)⟩⟩
                        · rw [if_neg c43] at H
                          have c43b0 : decide (x13_2 < (wrap64 (Int.tmod a0 9))) = false := decide_eq_false c43
                          clear c43
                          by_cases c53 : (wrap64 ((wrap64 ((l1.length : Int) + x13_2)) - (wrap64 (Int.tmod a0 9)))) < 0
                          · rw [if_pos c53] at H
                            have c53b0 : decide ((wrap64 ((wrap64 ((l1.length : Int) + x13_2)) - (wrap64 (Int.tmod a0 9)))) < 0) = true := decide_eq_true c53
                            clear c53
                            by_cases c54 : t199 = 0
                            · rw [if_pos c54] at H
                              have c54b0 : (t199 == 0) = true := beq_iff_eq.mpr c54
                              have c54b1 : (t199 != 0) = false := bne_eq_false_iff_eq.mpr c54
                              clear c54
                              have H' := Aside0.mk H
                              clear H
                              go_wp2
                              go_roundg kj33
                              case measure => have := HK1.out; have := HK2.out; have := HJ33.out; omega
                              case rel => exact ⟨(wrap64 (x13_2 + 1)), (t190), (t191), (t192), (t193), (t194), (t195), (t196), (t197), (t198), (by first | rfl | (simp; done) | (simp [*]; done)), H', ⟨by have := HK1.out; have := HK2.out; have := HJ33.out; omega⟩, ⟨by (with_reducible repeat (first | refine blk_drewN ?_ _ | refine blk_drew ?_ | refine blk_alloc ?_ _)); exact BK177.out⟩, ⟨by repeat (first | (with_reducible first | exact HB.out | apply below_alloc | apply pw_below_drewN | apply below_drew1 | refine below_set ?_ GE177.out | refine below_set ?_ GE200.out) | exact HB.out)⟩⟩
                            · rw [if_neg c54] at H
                              have c54b0 : (t199 == 0) = false := beq_eq_false_iff_ne.mpr c54
                              have c54b1 : (t199 != 0) = true := bne_iff_ne.mpr c54
                              obtain rfl := Option.some.inj H
                              go_wp2
                              go_ret
                              exact ⟨by first | rfl | (simp [errW_none, errW_some] <;> rfl) | (simp [*, errW_none, errW_some] <;> rfl), by repeat (first | (with_reducible first | exact HB.out | apply below_alloc | apply pw_below_drewN | apply below_drew1 | refine below_set ?_ GE177.out | refine below_set ?_ GE200.out) | exact HB.out)⟩
                          · rw [if_neg c53] at H
                            have c53b0 : decide ((wrap64 ((wrap64 ((l1.length : Int) + x13_2)) - (wrap64 (Int.tmod a0 9)))) < 0) = false := decide_eq_false c53
                            clear c53
                            have H' := Aside0.mk H
                            clear H
                            go_wp2
                            go_roundg kj33
                            case measure => have := HK1.out; have := HK2.out; have := HJ33.out; omega
                            case rel => exact ⟨(wrap64 (x13_2 + 1)), (t190), (t191), (t192), (t193), (t194), (t195), (t196), (t197), (t198), (by first | rfl | (simp; done) | (simp [*]; done)), H', ⟨by have := HK1.out; have := HK2.out; have := HJ33.out; omega⟩, ⟨by (with_reducible repeat (first | refine blk_drewN ?_ _ | refine blk_drew ?_ | refine blk_alloc ?_ _)); exact BK177.out⟩, ⟨by repeat (first | (with_reducible first | exact HB.out | apply below_alloc | apply pw_below_drewN | apply below_drew1 | refine below_set ?_ GE177.out | refine below_set ?_ GE200.out) | exact HB.out)⟩⟩
                · rw [if_neg c32] at H
                  have c32b0 : decide (x13_2 < 20) = false := decide_eq_false c32
                  clear c32
                  obtain rfl := Option.some.inj H
                  go_wp2
                  go_ret
                  exact ⟨by first | rfl | (simp [errW_none, errW_some] <;> rfl) | (simp [*, errW_none, errW_some] <;> rfl), by repeat (first | (with_reducible first | exact HB.out | apply below_alloc | apply pw_below_drewN | apply below_drew1 | refine below_set ?_ GE177.out) | exact HB.out)⟩
  · replace c5 := Bool.eq_false_iff.mpr c5
    subst c5
    have H1 : (some false) = some r := by rw [if_neg (show ¬ (false = true) by decide)] at H; exact H
    clear H
    have H := H1
    clear H1
    obtain rfl := Option.some.inj H
    go_enter Try.func6, Try.ntmps6
    go_wp2_with (first | ((with_reducible refine gate_callee (f := 9) rfl ?_); refine goesL_ (some 17) rfl rfl Try.func9 (by kernel_rfl) rfl #[] rfl (by (try simp only [List.map_toArray, List.map_cons, List.map_nil]); first | done | rfl | (simp only [List.length_drop, List.length_take]; rfl)) ?_; (with_reducible refine (paternosterlaw10_awake.calls  false _ A4.out).mono ?_); rintro e w55 ⟨rfl, hb⟩; refine ⟨_, rfl, ?_⟩; have n0_ := Aside0.mk (below_step (by repeat (first | (with_reducible first | exact HB.out | apply below_alloc | apply pw_below_drewN | apply below_drew1) | exact HB.out)) hb); clear HB; have HB := n0_; clear n0_; (try clear hb); (try clear hb2); (try clear hk); (try clear hi)))
    go_ret
    exact ⟨by first | rfl | (simp [errW_none, errW_some] <;> rfl) | (simp [*, errW_none, errW_some] <;> rfl), by repeat (first | (with_reducible first | exact HB.out | apply below_alloc | apply pw_below_drewN | apply below_drew1) | exact HB.out)⟩

/-- THE ONE PURE STATEMENT of paternosterlaw10_FeedLags: yours. -/
def paternosterlaw10_FeedLags.Pure : Prop := ∀ (a0 : Int) (l1 : List Int) (a2 : Int), (Lit.int .u8 a0).wf = true → l1.length ≤ maxLen → l1.length * 2 ≤ 140737488351232 → (∀ x ∈ l1, (Lit.int .u16 x).wf = true) → (Lit.int .u16 a2).wf = true → ∃ k, paternosterlaw10_FeedLags.f k a0 l1 a2 = some true
theorem paternosterlaw10_FeedLags.walk (P : paternosterlaw10_FeedLags.Pure) (a0 : Int) (a1 : Option Addr) (len1 cap1 : Nat) (z1 : List Int) (a2 : Int) (w : World) (w0 : (Lit.int .u8 a0).wf = true) (w1 : (a1 = none ∧ len1 = 0 ∧ cap1 = 0 ∧ z1 = []) ∨ ∃ x, a1 = some x ∧ len1 ≤ cap1 ∧ cap1 ≤ maxLen ∧ z1.length = cap1 ∧ (∀ i, i < z1.length → w.cell? (x.add i) = some (.int .u16 (z1.getD i 0))) ∧ ∀ n ∈ z1, (Lit.int .u16 n).wf = true) (y1 : len1 * 2 ≤ 140737488351232) (w2 : (Lit.int .u16 a2).wf = true) :
    Calls Try.prog 6 #[.int .u8 a0, .slice a1 len1 cap1, .int .u16 a2] w fun e w' => e = .returned (.bool true) ∧ Below w.heap.size w w' := by
  obtain ⟨l1, rfl, hr1, hm1, hw1, hc1⟩ := ReadsInt.ofRowC w1
  obtain ⟨k, h⟩ := P a0 l1 a2 w0 hm1 y1 hw1 w2
  refine (paternosterlaw10_FeedLags.calls k a0 _ _ l1 a2 true w (Kd.C_of_reads (d := (0 : Int)) (h1 := fun _ => rfl) hr1) hc1 h).mono ?_
  rintro e w' ⟨rfl, hd⟩
  exact ⟨rfl, hd⟩

end Go.Proofs.Ytangjedacimmcaa.X
