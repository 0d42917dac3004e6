-- Written by a program of this session (wip/xprint/xprint.py runs the kit's print with hand-proved externs).
import Derived.Test.YtangjedacimmcaaXx0
import Derived.Test.YtangjedacimmcaaXx1
import Derived.Test.YtangjedacimmcaaXx3
import Derived.Test.YtangjedacimmcaaFeedAwake
import Derived.Test.YtangjedacimmcaaFeedStep
namespace Go.Proofs.Ytangjedacimmcaa.X
open Go.RowKit Go.Proofs.YtangjedacimmcaaW.PrintWords Go.Proofs.YtangjedacimmcaaW.PrintLast Go.Proofs.YtangjedacimmcaaW.PrintMore
attribute [local go_sem] max2_int min2_int max_two min_two max_three min_three max_four min_four   -- for this text's walks alone
set_option linter.unusedVariables false
set_option linter.unusedSimpArgs false

attribute [local go_sem high] eqA23
/-! ### paternosterlaw10_FeedGoes: function 5 -/
mutual
def paternosterlaw10_FeedGoes.j0 : Nat → List (S25) → Int → Int → Int → Option (Bool)
  | 0, _, _, _, _ => none
  | k + 1, x0, x154000, x154001, x154002 => paternosterlaw10_FeedGoes.l0 k x0 x154000 0 0 0 0 x154000 x154001 x154002
def paternosterlaw10_FeedGoes.l0 : Nat → List (S25) → Int → Int → Int → Int → Int → Int → Int → Int → Option (Bool)
  | 0, _, _, _, _, _, _, _, _, _ => none
  | k + 1, x0, x7, x8, x9, x10, x11, x154000, x154001, x154002 => if x11 < (x0.length : Int) then (if 0 ≤ x11 then ((feed_Feed_Step.f x154000 x154001 x154002 ((rd_T25 x0 x11).f0) ((rd_T25 x0 x11).f1) ((rd_T25 x0 x11).f2)).bind fun bt158 => (if bt158.1 = 0 then (if x154000 = 0 then (paternosterlaw10_FeedGoes.j3 k x0 x7 x8 x9 x10 x11 bt158.1 bt158.2.1 bt158.2.2) else (if ((rd_T25 x0 x11).f1 = true) then (if ((rd_T25 x0 x11).f0) = x154000 then (paternosterlaw10_FeedGoes.j2 k x0 x11 true bt158.1 bt158.2.1 bt158.2.2 x154000 x154001 x154002) else ((feed_Feed_Power.f k x154000 x154001 x154002 true true).bind fun t163 => (paternosterlaw10_FeedGoes.j2 k x0 x11 (t163 != x154000) bt158.1 bt158.2.1 bt158.2.2 x154000 x154001 x154002))) else (paternosterlaw10_FeedGoes.j2 k x0 x11 true bt158.1 bt158.2.1 bt158.2.2 x154000 x154001 x154002))) else (if x154000 = 0 then (if bt158.1 = x8 then (if bt158.1 = x7 then (paternosterlaw10_FeedGoes.j4 k x0 x7 x8 x9 x10 x11 true bt158.1 bt158.2.1 bt158.2.2) else (if x9 = x10 then (paternosterlaw10_FeedGoes.j4 k x0 x7 x8 x9 x10 x11 false bt158.1 bt158.2.1 bt158.2.2) else (paternosterlaw10_FeedGoes.j4 k x0 x7 x8 x9 x10 x11 true bt158.1 bt158.2.1 bt158.2.2))) else (paternosterlaw10_FeedGoes.j4 k x0 x7 x8 x9 x10 x11 true bt158.1 bt158.2.1 bt158.2.2)) else (paternosterlaw10_FeedGoes.j4 k x0 x7 x8 x9 x10 x11 (!(bt158.1 == x154000) || (!(bt158.2.1 == x154001) || (!(bt158.2.2 == x154002)))) bt158.1 bt158.2.1 bt158.2.2)))) else (none)) else (some true)
def paternosterlaw10_FeedGoes.j3 : Nat → List (S25) → Int → Int → Int → Int → Int → Int → Int → Int → Option (Bool)
  | 0, _, _, _, _, _, _, _, _, _ => none
  | k + 1, x0, x7, x8, x9, x10, x11, x154000, x154001, x154002 => if (wrap64 (x9 + 1)) > x10 then (some false) else ((feed_Feed_Power.f k x154000 x154001 x154002 true true).bind fun t166 => (if t166 = 0 then (paternosterlaw10_FeedGoes.l0 k x0 x7 x8 (wrap64 (x9 + 1)) x10 (wrap64 (x11 + 1)) x154000 x154001 x154002) else (some false)))
def paternosterlaw10_FeedGoes.j2 : Nat → List (S25) → Int → Bool → Int → Int → Int → Int → Int → Int → Option (Bool)
  | 0, _, _, _, _, _, _, _, _, _ => none
  | k + 1, x0, x11, x76, x154000, x154001, x154002, x155000, x155001, x155002 => if x76 = true then (some false) else (if 0 ≤ x11 then (if x11 < (x0.length : Int) then (paternosterlaw10_FeedGoes.j3 k x0 x155000 ((rd_T25 x0 x11).f0) 0 (mn (mx ((rd_T25 x0 x11).f2) 1) 200) x11 x154000 x154001 x154002) else (none)) else (none))
def paternosterlaw10_FeedGoes.j4 : Nat → List (S25) → Int → Int → Int → Int → Int → Bool → Int → Int → Int → Option (Bool)
  | 0, _, _, _, _, _, _, _, _, _, _ => none
  | k + 1, x0, x7, x8, x9, x10, x11, x130, x154000, x154001, x154002 => if x130 = true then (some false) else (paternosterlaw10_FeedGoes.l0 k x0 x7 x8 x9 x10 (wrap64 (x11 + 1)) x154000 x154001 x154002)
end
def paternosterlaw10_FeedGoes.f (k : Nat) (l0 : List (S25)) (a1 : Bool) : Option (Bool) := (paternosterlaw10_awake.f).bind fun t152 => (if t152 = true then (if (l0.length : Int) > 300 then (some true) else (if a1 = true then (paternosterlaw10_FeedGoes.j0 k l0 2 0 0) else (paternosterlaw10_FeedGoes.j0 k l0 1 0 0))) else (some false))
theorem paternosterlaw10_FeedGoes.mono_l : ∀ k, (∀ y0 y1 y2 y3, LeO (paternosterlaw10_FeedGoes.j0 k y0 y1 y2 y3) (paternosterlaw10_FeedGoes.j0 (k + 1) y0 y1 y2 y3)) ∧ (∀ y0 y1 y2 y3 y4 y5 y6 y7 y8, LeO (paternosterlaw10_FeedGoes.l0 k y0 y1 y2 y3 y4 y5 y6 y7 y8) (paternosterlaw10_FeedGoes.l0 (k + 1) y0 y1 y2 y3 y4 y5 y6 y7 y8)) ∧ (∀ y0 y1 y2 y3 y4 y5 y6 y7 y8, LeO (paternosterlaw10_FeedGoes.j3 k y0 y1 y2 y3 y4 y5 y6 y7 y8) (paternosterlaw10_FeedGoes.j3 (k + 1) y0 y1 y2 y3 y4 y5 y6 y7 y8)) ∧ (∀ y0 y1 y2 y3 y4 y5 y6 y7 y8, LeO (paternosterlaw10_FeedGoes.j2 k y0 y1 y2 y3 y4 y5 y6 y7 y8) (paternosterlaw10_FeedGoes.j2 (k + 1) y0 y1 y2 y3 y4 y5 y6 y7 y8)) ∧ (∀ y0 y1 y2 y3 y4 y5 y6 y7 y8 y9, LeO (paternosterlaw10_FeedGoes.j4 k y0 y1 y2 y3 y4 y5 y6 y7 y8 y9) (paternosterlaw10_FeedGoes.j4 (k + 1) y0 y1 y2 y3 y4 y5 y6 y7 y8 y9))
  | 0 => ⟨fun _ _ _ _ r h => by simp [paternosterlaw10_FeedGoes.j0] at h, fun _ _ _ _ _ _ _ _ _ r h => by simp [paternosterlaw10_FeedGoes.l0] at h, fun _ _ _ _ _ _ _ _ _ r h => by simp [paternosterlaw10_FeedGoes.j3] at h, fun _ _ _ _ _ _ _ _ _ r h => by simp [paternosterlaw10_FeedGoes.j2] at h, fun _ _ _ _ _ _ _ _ _ _ r h => by simp [paternosterlaw10_FeedGoes.j4] at h⟩
  | k + 1 => by
    obtain ⟨ih0, ih1, ih2, ih3, ih4⟩ := paternosterlaw10_FeedGoes.mono_l k
    refine ⟨?_, ?_, ?_, ?_, ?_⟩
    · intro y0 y1 y2 y3
      unfold paternosterlaw10_FeedGoes.j0
      repeat' first
      | (with_reducible exact ih0 _ _ _ _)
      | (with_reducible exact ih1 _ _ _ _ _ _ _ _ _)
      | (with_reducible exact ih2 _ _ _ _ _ _ _ _ _)
      | (with_reducible exact ih3 _ _ _ _ _ _ _ _ _)
      | (with_reducible exact ih4 _ _ _ _ _ _ _ _ _ _)
      | (with_reducible exact feed_Feed_Power.mono _ _ _ _ _ _)
      | (with_reducible exact LeO.refl _)
      | (with_reducible exact LeO.none _)
      | (with_reducible refine LeO.ite ?_ ?_)
      | (with_reducible refine LeO.bind ?_ (fun _ => ?_))
      | exact ih0 _ _ _ _
      | exact ih1 _ _ _ _ _ _ _ _ _
      | exact ih2 _ _ _ _ _ _ _ _ _
      | exact ih3 _ _ _ _ _ _ _ _ _
      | exact ih4 _ _ _ _ _ _ _ _ _ _
      | exact feed_Feed_Power.mono _ _ _ _ _ _
      | exact LeO.none _
      | refine LeO.ite ?_ ?_
      | refine LeO.bind ?_ (fun _ => ?_)
    · intro y0 y1 y2 y3 y4 y5 y6 y7 y8
      unfold paternosterlaw10_FeedGoes.l0
      repeat' first
      | (with_reducible exact ih0 _ _ _ _)
      | (with_reducible exact ih1 _ _ _ _ _ _ _ _ _)
      | (with_reducible exact ih2 _ _ _ _ _ _ _ _ _)
      | (with_reducible exact ih3 _ _ _ _ _ _ _ _ _)
      | (with_reducible exact ih4 _ _ _ _ _ _ _ _ _ _)
      | (with_reducible exact feed_Feed_Power.mono _ _ _ _ _ _)
      | (with_reducible exact LeO.refl _)
      | (with_reducible exact LeO.none _)
      | (with_reducible refine LeO.ite ?_ ?_)
      | (with_reducible refine LeO.bind ?_ (fun _ => ?_))
      | exact ih0 _ _ _ _
      | exact ih1 _ _ _ _ _ _ _ _ _
      | exact ih2 _ _ _ _ _ _ _ _ _
      | exact ih3 _ _ _ _ _ _ _ _ _
      | exact ih4 _ _ _ _ _ _ _ _ _ _
      | exact feed_Feed_Power.mono _ _ _ _ _ _
      | exact LeO.none _
      | refine LeO.ite ?_ ?_
      | refine LeO.bind ?_ (fun _ => ?_)
    · intro y0 y1 y2 y3 y4 y5 y6 y7 y8
      unfold paternosterlaw10_FeedGoes.j3
      repeat' first
      | (with_reducible exact ih0 _ _ _ _)
      | (with_reducible exact ih1 _ _ _ _ _ _ _ _ _)
      | (with_reducible exact ih2 _ _ _ _ _ _ _ _ _)
      | (with_reducible exact ih3 _ _ _ _ _ _ _ _ _)
      | (with_reducible exact ih4 _ _ _ _ _ _ _ _ _ _)
      | (with_reducible exact feed_Feed_Power.mono _ _ _ _ _ _)
      | (with_reducible exact LeO.refl _)
      | (with_reducible exact LeO.none _)
      | (with_reducible refine LeO.ite ?_ ?_)
      | (with_reducible refine LeO.bind ?_ (fun _ => ?_))
      | exact ih0 _ _ _ _
      | exact ih1 _ _ _ _ _ _ _ _ _
      | exact ih2 _ _ _ _ _ _ _ _ _
      | exact ih3 _ _ _ _ _ _ _ _ _
      | exact ih4 _ _ _ _ _ _ _ _ _ _
      | exact feed_Feed_Power.mono _ _ _ _ _ _
      | exact LeO.none _
      | refine LeO.ite ?_ ?_
      | refine LeO.bind ?_ (fun _ => ?_)
    · intro y0 y1 y2 y3 y4 y5 y6 y7 y8
      unfold paternosterlaw10_FeedGoes.j2
      repeat' first
      | (with_reducible exact ih0 _ _ _ _)
      | (with_reducible exact ih1 _ _ _ _ _ _ _ _ _)
      | (with_reducible exact ih2 _ _ _ _ _ _ _ _ _)
      | (with_reducible exact ih3 _ _ _ _ _ _ _ _ _)
      | (with_reducible exact ih4 _ _ _ _ _ _ _ _ _ _)
      | (with_reducible exact feed_Feed_Power.mono _ _ _ _ _ _)
      | (with_reducible exact LeO.refl _)
      | (with_reducible exact LeO.none _)
      | (with_reducible refine LeO.ite ?_ ?_)
      | (with_reducible refine LeO.bind ?_ (fun _ => ?_))
      | exact ih0 _ _ _ _
      | exact ih1 _ _ _ _ _ _ _ _ _
      | exact ih2 _ _ _ _ _ _ _ _ _
      | exact ih3 _ _ _ _ _ _ _ _ _
      | exact ih4 _ _ _ _ _ _ _ _ _ _
      | exact feed_Feed_Power.mono _ _ _ _ _ _
      | exact LeO.none _
      | refine LeO.ite ?_ ?_
      | refine LeO.bind ?_ (fun _ => ?_)
    · intro y0 y1 y2 y3 y4 y5 y6 y7 y8 y9
      unfold paternosterlaw10_FeedGoes.j4
      repeat' first
      | (with_reducible exact ih0 _ _ _ _)
      | (with_reducible exact ih1 _ _ _ _ _ _ _ _ _)
      | (with_reducible exact ih2 _ _ _ _ _ _ _ _ _)
      | (with_reducible exact ih3 _ _ _ _ _ _ _ _ _)
      | (with_reducible exact ih4 _ _ _ _ _ _ _ _ _ _)
      | (with_reducible exact feed_Feed_Power.mono _ _ _ _ _ _)
      | (with_reducible exact LeO.refl _)
      | (with_reducible exact LeO.none _)
      | (with_reducible refine LeO.ite ?_ ?_)
      | (with_reducible refine LeO.bind ?_ (fun _ => ?_))
      | exact ih0 _ _ _ _
      | exact ih1 _ _ _ _ _ _ _ _ _
      | exact ih2 _ _ _ _ _ _ _ _ _
      | exact ih3 _ _ _ _ _ _ _ _ _
      | exact ih4 _ _ _ _ _ _ _ _ _ _
      | exact feed_Feed_Power.mono _ _ _ _ _ _
      | exact LeO.none _
      | refine LeO.ite ?_ ?_
      | refine LeO.bind ?_ (fun _ => ?_)
theorem paternosterlaw10_FeedGoes.mono : ∀ a0 a1 k, LeO (paternosterlaw10_FeedGoes.f k a0 a1) (paternosterlaw10_FeedGoes.f (k + 1) a0 a1) := by
  intro a0 a1 k
  obtain ⟨ih0, ih1, ih2, ih3, ih4⟩ := paternosterlaw10_FeedGoes.mono_l k
  unfold paternosterlaw10_FeedGoes.f
  repeat' first
      | (with_reducible exact ih0 _ _ _ _)
      | (with_reducible exact ih1 _ _ _ _ _ _ _ _ _)
      | (with_reducible exact ih2 _ _ _ _ _ _ _ _ _)
      | (with_reducible exact ih3 _ _ _ _ _ _ _ _ _)
      | (with_reducible exact ih4 _ _ _ _ _ _ _ _ _ _)
      | (with_reducible exact feed_Feed_Power.mono _ _ _ _ _ _)
      | (with_reducible exact LeO.refl _)
      | (with_reducible exact LeO.none _)
      | (with_reducible refine LeO.ite ?_ ?_)
      | (with_reducible refine LeO.bind ?_ (fun _ => ?_))
      | exact ih0 _ _ _ _
      | exact ih1 _ _ _ _ _ _ _ _ _
      | exact ih2 _ _ _ _ _ _ _ _ _
      | exact ih3 _ _ _ _ _ _ _ _ _
      | exact ih4 _ _ _ _ _ _ _ _ _ _
      | exact feed_Feed_Power.mono _ _ _ _ _ _
      | exact LeO.none _
      | refine LeO.ite ?_ ?_
      | refine LeO.bind ?_ (fun _ => ?_)
def paternosterlaw10_FeedGoes.T17 : Bool × List (List Nat × List Nat) := (true, [([], []), ([], []), ([], []), ([1, 2], [1, 2]), ([3], [3]), ([4], [4]), ([], []), ([], []), ([6, 7], [6, 7]), ([8], [8]), ([9], [9]), ([], []), ([], []), ([11, 12], [11, 12]), ([13], [13]), ([14], [14]), ([0, 5, 10, 15], [0, 5, 10, 15]), ([16, 16, 0, 1, 2, 3, 4, 5, 6, 7, 8, 9, 10, 11, 12, 13, 14, 15, 16], [16])])
def paternosterlaw10_FeedGoes.B17 : List Nat := [0, 0, 0, 6, 14, 30, 0, 0, 192, 448, 960, 0, 0, 6144, 14336, 30720, 65535, 131071]
theorem paternosterlaw10_FeedGoes.tab17 : rtab .any (opsOf Try.f5 17) = paternosterlaw10_FeedGoes.T17 := by kernel_rfl
theorem paternosterlaw10_FeedGoes.bits17 : waitsOk paternosterlaw10_FeedGoes.T17.2 paternosterlaw10_FeedGoes.B17 = true := by kernel_rfl
def paternosterlaw10_FeedGoes.T20 : Bool × List (List Nat × List Nat) := (true, [([], []), ([], []), ([0, 1], [0, 1]), ([2], [2]), ([3], [3]), ([4], [4]), ([5], [5]), ([6], [6]), ([6], [6]), ([7, 8, 6], [6, 7, 8]), ([9, 6], [6, 9]), ([10, 6], [6, 10]), ([6], [6]), ([12, 6], [6, 12]), ([11, 13, 6], [6, 11, 13]), ([6, 14], [6, 14]), ([15, 6], [15]), ([16], [16]), ([17, 16, 16], [16, 17]), ([16], [16]), ([19, 16], [16, 19]), ([18, 20, 16], [16, 18, 20]), ([16, 21], [16, 21])])
def paternosterlaw10_FeedGoes.B20 : List Nat := [0, 0, 3, 7, 15, 31, 63, 127, 127, 511, 1023, 2047, 127, 4223, 16383, 32767, 65535, 131071, 262143, 131071, 655359, 2097151, 4194303]
theorem paternosterlaw10_FeedGoes.tab20 : rtab .any (opsOf Try.f5 20) = paternosterlaw10_FeedGoes.T20 := by kernel_rfl
theorem paternosterlaw10_FeedGoes.bits20 : waitsOk paternosterlaw10_FeedGoes.T20.2 paternosterlaw10_FeedGoes.B20 = true := by kernel_rfl
set_option maxHeartbeats 8000000 in
set_option maxRecDepth 100000 in
theorem paternosterlaw10_FeedGoes.calls (k : Nat) (A0 : Option Addr) (c0 : Nat) (l0 : List (S25)) (a1 : Bool) (r : Bool) (w : World) (hr0 : Kd.C k25 w A0 l0.length l0) (hc0 : l0.length ≤ c0) (h : paternosterlaw10_FeedGoes.f k l0 a1 = some r) :
    Calls Try.prog 5 #[.slice A0 l0.length c0, .bool a1] w fun e w' => e = .returned (.bool r) ∧ Below w.heap.size w w' := by
  have hu23 := Try.underlying23
  have HR0 := Aside0.mk hr0
  have HC0 := Aside0.mk hc0
  clear hr0 hc0
  have HB := Aside0.mk (Below.refl w.heap.size w)
  have H : ((paternosterlaw10_awake.f).bind fun t152 => (if t152 = true then (if (l0.length : Int) > 300 then (some true) else (if a1 = true then (paternosterlaw10_FeedGoes.j0 k l0 2 0 0) else (paternosterlaw10_FeedGoes.j0 k l0 1 0 0))) else (some false))) = some r := h
  clear h
  replace H := Option.bind_eq_some_iff.mp H
  obtain ⟨t152, A30, H⟩ := H
  replace H : (if t152 = true then (if (l0.length : Int) > 300 then (some true) else (if a1 = true then (paternosterlaw10_FeedGoes.j0 k l0 2 0 0) else (paternosterlaw10_FeedGoes.j0 k l0 1 0 0))) else (some false)) = some r := H
  have A3 := Aside0.mk A30
  clear A30
  by_cases c4 : t152 = true
  · subst c4
    have H1 : (if (l0.length : Int) > 300 then (some true) else (if a1 = true then (paternosterlaw10_FeedGoes.j0 k l0 2 0 0) else (paternosterlaw10_FeedGoes.j0 k l0 1 0 0))) = some r := by rw [if_pos rfl] at H; exact H
    clear H
    have H := H1
    clear H1
    by_cases c5 : (l0.length : Int) > 300
    · rw [if_pos c5] at H
      have c5b0 : decide (300 < (l0.length : Int)) = true := decide_eq_true c5
      have c5b1 : decide (300 < l0.length) = true := decide_eq_true (by omega)
      clear c5
      obtain rfl := Option.some.inj H
      go_enter Try.func5, Try.ntmps5
      go_wp2_with (first | ((with_reducible refine gate_callee (f := 9) rfl ?_); refine goesL_ (some 13) rfl rfl Try.func9 (by kernel_rfl) rfl #[] rfl (by (try simp only [List.map_toArray, List.map_cons, List.map_nil]); first | done | rfl | (simp only [List.length_drop, List.length_take]; rfl)) ?_; (with_reducible refine (paternosterlaw10_awake.calls  true _ A3.out).mono ?_); rintro e w6 ⟨rfl, hb⟩; refine ⟨_, rfl, ?_⟩; have n0_ := Aside0.mk (below_step (by repeat (first | (with_reducible first | exact HB.out | apply below_alloc | apply pw_below_drewN | apply below_drew1) | exact HB.out)) hb); clear HB; have HB := n0_; clear n0_; (try clear hb); (try clear hb2); (try clear hk); (try clear hi)))
      go_ret
      exact ⟨by first | rfl | (simp [errW_none, errW_some] <;> rfl) | (simp [*, errW_none, errW_some] <;> rfl), by repeat (first | (with_reducible first | exact HB.out | apply below_alloc | apply pw_below_drewN | apply below_drew1) | exact HB.out)⟩
    · rw [if_neg c5] at H
      have c5b0 : decide (300 < (l0.length : Int)) = false := decide_eq_false c5
      have c5b1 : decide (300 < l0.length) = false := decide_eq_false (by omega)
      clear c5
      have HC7 := Aside0.mk H
      clear H
      go_enter Try.func5, Try.ntmps5
      go_upto_if 20 with (first | ((with_reducible refine gate_callee (f := 9) rfl ?_); refine goesL_ (some 13) rfl rfl Try.func9 (by kernel_rfl) rfl #[] rfl (by (try simp only [List.map_toArray, List.map_cons, List.map_nil]); first | done | rfl | (simp only [List.length_drop, List.length_take]; rfl)) ?_; (with_reducible refine (paternosterlaw10_awake.calls  true _ A3.out).mono ?_); rintro e w8 ⟨rfl, hb⟩; refine ⟨_, rfl, ?_⟩; have n0_ := Aside0.mk (below_step (by repeat (first | (with_reducible first | exact HB.out | apply below_alloc | apply pw_below_drewN | apply below_drew1) | exact HB.out)) hb); clear HB; have HB := n0_; clear n0_; (try clear hb); (try clear hb2); (try clear hk); (try clear hi)) | ((with_reducible refine gate_dst (N := 6) rfl ?_); refine box_event ?hg (N := 6) ?hd (cs := #[.int .i64 0, .int .i64 0, .int .i64 0]) (t := 23) ?hr ?_; (case hd => rfl); (case hg => rfl); (case hr => first | (go_simp; done) | (go_simp; rfl)); intro gb153 hg w9 hbox hb; have n0_ := Aside0.mk (below_step (by repeat (first | (with_reducible first | exact HB.out | apply below_alloc | apply pw_below_drewN | apply below_drew1) | exact HB.out)) hb); have n1_ := Aside0.mk (hbox); have n2_ := Aside0.mk ((by rw [hg]; exact (below_size (by repeat (first | (with_reducible first | exact HB.out | apply below_alloc | apply pw_below_drewN | apply below_drew1) | exact HB.out))) : w.heap.size ≤ gb153)); have n3_ := Aside0.mk ((by rw [hg]; exact (below_size (by repeat (first | (with_reducible first | exact HB.out | apply below_alloc | apply pw_below_drewN | apply below_drew1) | exact HB.out))) : w.heap.size ≤ gb153)); clear HB; have HB := n0_; have BK153 := n1_; have GW153 := n2_; have GE153 := n3_; clear n0_ n1_ n2_ n3_; clear hb hbox hg; have hcz10_0 : w9.cell? ⟨gb153, 0, none⟩ = some (.int .i64 0) := (blk_cell BK153.out 0).trans rfl; have hcz10_1 : w9.cell? ⟨gb153, 1, none⟩ = some (.int .i64 0) := (blk_cell BK153.out 1).trans rfl; have hcz10_2 : w9.cell? ⟨gb153, 2, none⟩ = some (.int .i64 0) := (blk_cell BK153.out 2).trans rfl; have hfz10_0 := blk_frozen BK153.out 0; have hfz10_1 := blk_frozen BK153.out 1; have hfz10_2 := blk_frozen BK153.out 2))
      (try simp only [Act.put, List.setIfInBounds_toArray, List.set_cons_zero, List.set_cons_succ])
      go_cut [] (fun wc => ∃ (kq : Nat) (x154000_6 : Int) (x154001_6 : Int) (x154002_6 : Int), Aside0 (paternosterlaw10_FeedGoes.j0 kq l0 x154000_6 x154001_6 x154002_6 = some r) ∧ Aside0 (kq ≤ k) ∧ Aside0 (wc.heap[gb153]? = some (.cells #[.int .i64 x154000_6, .int .i64 x154001_6, .int .i64 x154002_6] 23 (0, 0))) ∧ Aside0 (Below w.heap.size w wc))
      case first =>
        have H := HC7.out
        clear HC7
        by_cases c11 : a1 = true
        · subst c11
          have H1 : (paternosterlaw10_FeedGoes.j0 k l0 2 0 0) = some r := by rw [if_pos rfl] at H; exact H
          clear H
          have H := H1
          clear H1
          have H' := Aside0.mk H
          clear H
          have hcz12_0 : w9.cell? ⟨gb153, 0, none⟩ = some (.int .i64 0) := (blk_cell BK153.out 0).trans rfl
          have hcz12_1 : w9.cell? ⟨gb153, 1, none⟩ = some (.int .i64 0) := (blk_cell BK153.out 1).trans rfl
          have hcz12_2 : w9.cell? ⟨gb153, 2, none⟩ = some (.int .i64 0) := (blk_cell BK153.out 2).trans rfl
          have hfz12_0 := blk_frozen BK153.out 0
          have hfz12_1 := blk_frozen BK153.out 1
          have hfz12_2 := blk_frozen BK153.out 2
          go_wp2
          go_meet
          case rel => exact ⟨_, (2), (0), (0), H', ⟨by first | omega | exact Nat.le_refl _⟩, ⟨by (with_reducible repeat (first | refine blk_drewN ?_ _ | refine blk_drew ?_ | refine blk_alloc ?_ _)); refine blk_put (cs := #[.int .i64 2, .int .i64 0, .int .i64 0]) ?_ 2 _ rfl; (with_reducible repeat (first | refine blk_drewN ?_ _ | refine blk_drew ?_ | refine blk_alloc ?_ _)); refine blk_put (cs := #[.int .i64 2, .int .i64 0, .int .i64 0]) ?_ 1 _ rfl; (with_reducible repeat (first | refine blk_drewN ?_ _ | refine blk_drew ?_ | refine blk_alloc ?_ _)); refine blk_put (cs := #[.int .i64 1, .int .i64 0, .int .i64 0]) ?_ 0 _ rfl; (with_reducible repeat (first | refine blk_drewN ?_ _ | refine blk_drew ?_ | refine blk_alloc ?_ _)); refine blk_put (cs := #[.int .i64 1, .int .i64 0, .int .i64 0]) ?_ 2 _ rfl; (with_reducible repeat (first | refine blk_drewN ?_ _ | refine blk_drew ?_ | refine blk_alloc ?_ _)); refine blk_put (cs := #[.int .i64 1, .int .i64 0, .int .i64 0]) ?_ 1 _ rfl; (with_reducible repeat (first | refine blk_drewN ?_ _ | refine blk_drew ?_ | refine blk_alloc ?_ _)); refine blk_put (cs := #[.int .i64 0, .int .i64 0, .int .i64 0]) ?_ 0 _ rfl; (with_reducible repeat (first | refine blk_drewN ?_ _ | refine blk_drew ?_ | refine blk_alloc ?_ _)); exact BK153.out⟩, ⟨by repeat (first | (with_reducible first | exact HB.out | apply below_alloc | apply pw_below_drewN | apply below_drew1 | refine below_set ?_ GE153.out) | exact HB.out)⟩⟩
        · replace c11 := Bool.eq_false_iff.mpr c11
          subst c11
          have H1 : (paternosterlaw10_FeedGoes.j0 k l0 1 0 0) = some r := by rw [if_neg (show ¬ (false = true) by decide)] at H; exact H
          clear H
          have H := H1
          clear H1
          have H' := Aside0.mk H
          clear H
          go_wp2
          go_meet
          case rel => exact ⟨_, (1), (0), (0), H', ⟨by first | omega | exact Nat.le_refl _⟩, ⟨by (with_reducible repeat (first | refine blk_drewN ?_ _ | refine blk_drew ?_ | refine blk_alloc ?_ _)); refine blk_put (cs := #[.int .i64 1, .int .i64 0, .int .i64 0]) ?_ 2 _ rfl; (with_reducible repeat (first | refine blk_drewN ?_ _ | refine blk_drew ?_ | refine blk_alloc ?_ _)); refine blk_put (cs := #[.int .i64 1, .int .i64 0, .int .i64 0]) ?_ 1 _ rfl; (with_reducible repeat (first | refine blk_drewN ?_ _ | refine blk_drew ?_ | refine blk_alloc ?_ _)); refine blk_put (cs := #[.int .i64 0, .int .i64 0, .int .i64 0]) ?_ 0 _ rfl; (with_reducible repeat (first | refine blk_drewN ?_ _ | refine blk_drew ?_ | refine blk_alloc ?_ _)); exact BK153.out⟩, ⟨by repeat (first | (with_reducible first | exact HB.out | apply below_alloc | apply pw_below_drewN | apply below_drew1 | refine below_set ?_ GE153.out) | exact HB.out)⟩⟩
      case rest =>
        clear HC7
        try clear c1
        try clear p2
        try clear c4
        try clear c5
        try clear c5b0
        try clear c5b1
        try clear c9
        try clear c11
        try clear hcz10_0
        try clear hcz10_1
        try clear hcz10_2
        try clear hcz12_0
        try clear hcz12_1
        try clear hcz12_2
        try clear hfz10_0
        try clear hfz10_1
        try clear hfz10_2
        try clear hfz12_0
        try clear hfz12_1
        try clear hfz12_2
        obtain ⟨kq, x154000_6, x154001_6, x154002_6, HA, HJ6, BK153, HB⟩ := hcut
        cases kq with
        | zero => exact absurd HA.out (by simp [paternosterlaw10_FeedGoes.j0])
        | succ kj6 =>
          have H := HA.out
          clear HA
          simp only [paternosterlaw10_FeedGoes.j0] at H
          have H' := Aside0.mk H
          clear H
          have hcz13_0 : wc.cell? ⟨gb153, 0, none⟩ = some (.int .i64 x154000_6) := (blk_cell BK153.out 0).trans rfl
          have hcz13_1 : wc.cell? ⟨gb153, 1, none⟩ = some (.int .i64 x154001_6) := (blk_cell BK153.out 1).trans rfl
          have hcz13_2 : wc.cell? ⟨gb153, 2, none⟩ = some (.int .i64 x154002_6) := (blk_cell BK153.out 2).trans rfl
          have hfz13_0 := blk_frozen BK153.out 0
          have hfz13_1 := blk_frozen BK153.out 1
          have hfz13_2 := blk_frozen BK153.out 2
          go_wp2
          go_loopg [7, 8, 9, 10, 11] kj6 (fun kq v7 v8 v9 v10 v11 w' => ∃ (x7_2 : Int) (x8_2 : Int) (x9_2 : Int) (x10_2 : Int) (x11_2 : Int) (x154000_2 : Int) (x154001_2 : Int) (x154002_2 : Int), v7 = .int .i64 x7_2 ∧ v8 = .int .i64 x8_2 ∧ v9 = .int .i64 x9_2 ∧ v10 = .int .i64 x10_2 ∧ v11 = .int .i64 x11_2 ∧ Aside0 (paternosterlaw10_FeedGoes.l0 kq l0 x7_2 x8_2 x9_2 x10_2 x11_2 x154000_2 x154001_2 x154002_2 = some r) ∧ Aside0 (kq ≤ kj6) ∧ Aside0 (w'.heap[gb153]? = some (.cells #[.int .i64 x154000_2, .int .i64 x154001_2, .int .i64 x154002_2] 23 (0, 0))) ∧ Aside0 (Below w.heap.size w w'))
          case atStart => exact ⟨(x154000_6), (0), (0), (0), (0), (x154000_6), (x154001_6), (x154002_6), (by first | rfl | (simp; done) | (simp [*]; done)), (by first | rfl | (simp; done) | (simp [*]; done)), (by first | rfl | (simp; done) | (simp [*]; done)), (by first | rfl | (simp; done) | (simp [*]; done)), (by first | rfl | (simp; done) | (simp [*]; done)), H', ⟨Nat.le_refl _⟩, ⟨by (with_reducible repeat (first | refine blk_drewN ?_ _ | refine blk_drew ?_ | refine blk_alloc ?_ _)); exact BK153.out⟩, ⟨by repeat (first | (with_reducible first | exact HB.out | apply below_alloc | apply pw_below_drewN | apply below_drew1 | refine below_set ?_ GE153.out) | exact HB.out)⟩⟩
          case round =>
            clear H'
            try clear c1
            try clear p2
            try clear c4
            try clear c5
            try clear c5b0
            try clear c5b1
            try clear c9
            try clear c11
            try clear hcz10_0
            try clear hcz10_1
            try clear hcz10_2
            try clear hcz12_0
            try clear hcz12_1
            try clear hcz12_2
            try clear hcz13_0
            try clear hcz13_1
            try clear hcz13_2
            try clear hfz10_0
            try clear hfz10_1
            try clear hfz10_2
            try clear hfz12_0
            try clear hfz12_1
            try clear hfz12_2
            try clear hfz13_0
            try clear hfz13_1
            try clear hfz13_2
            try clear p2
            obtain ⟨x7_2, x8_2, x9_2, x10_2, x11_2, x154000_2, x154001_2, x154002_2, rfl, rfl, rfl, rfl, rfl, HA, HK2, BK153, HB⟩ := hrel
            cases gk with
            | zero => exact absurd HA.out (by simp [paternosterlaw10_FeedGoes.l0])
            | succ k2 =>
              have H := HA.out
              clear HA
              simp only [paternosterlaw10_FeedGoes.l0] at H
              by_cases c14 : x11_2 < (l0.length : Int)
              · rw [if_pos c14] at H
                have c14b0 : decide (x11_2 < (l0.length : Int)) = true := decide_eq_true c14
                clear c14
                by_cases c15 : 0 ≤ x11_2
                · rw [if_pos c15] at H
                  have c15b0 : decide (0 ≤ x11_2) = true := decide_eq_true c15
                  clear c15
                  replace H := Option.bind_eq_some_iff.mp H
                  obtain ⟨⟨t158, t159, t160⟩, A160, H⟩ := H
                  replace H : (if t158 = 0 then (if x154000_2 = 0 then (paternosterlaw10_FeedGoes.j3 k2 l0 x7_2 x8_2 x9_2 x10_2 x11_2 t158 t159 t160) else (if ((rd_T25 l0 x11_2).f1 = true) then (if ((rd_T25 l0 x11_2).f0) = x154000_2 then (paternosterlaw10_FeedGoes.j2 k2 l0 x11_2 true t158 t159 t160 x154000_2 x154001_2 x154002_2) else ((feed_Feed_Power.f k2 x154000_2 x154001_2 x154002_2 true true).bind fun t163 => (paternosterlaw10_FeedGoes.j2 k2 l0 x11_2 (t163 != x154000_2) t158 t159 t160 x154000_2 x154001_2 x154002_2))) else (paternosterlaw10_FeedGoes.j2 k2 l0 x11_2 true t158 t159 t160 x154000_2 x154001_2 x154002_2))) else (if x154000_2 = 0 then (if t158 = x8_2 then (if t158 = x7_2 then (paternosterlaw10_FeedGoes.j4 k2 l0 x7_2 x8_2 x9_2 x10_2 x11_2 true t158 t159 t160) else (if x9_2 = x10_2 then (paternosterlaw10_FeedGoes.j4 k2 l0 x7_2 x8_2 x9_2 x10_2 x11_2 false t158 t159 t160) else (paternosterlaw10_FeedGoes.j4 k2 l0 x7_2 x8_2 x9_2 x10_2 x11_2 true t158 t159 t160))) else (paternosterlaw10_FeedGoes.j4 k2 l0 x7_2 x8_2 x9_2 x10_2 x11_2 true t158 t159 t160)) else (paternosterlaw10_FeedGoes.j4 k2 l0 x7_2 x8_2 x9_2 x10_2 x11_2 (!(t158 == x154000_2) || (!(t159 == x154001_2) || (!(t160 == x154002_2)))) t158 t159 t160))) = some r := H
                  have A16 := Aside0.mk A160
                  clear A160
                  by_cases c17 : t158 = 0
                  · rw [if_pos c17] at H
                    have c17b0 : (t158 == 0) = true := beq_iff_eq.mpr c17
                    have c17b1 : (t158 != 0) = false := bne_eq_false_iff_eq.mpr c17
                    clear c17
                    have HC18 := Aside0.mk H
                    clear H
                    have hcz19_0 : wr.cell? ⟨gb153, 0, none⟩ = some (.int .i64 x154000_2) := (blk_cell BK153.out 0).trans rfl
                    have hcz19_1 : wr.cell? ⟨gb153, 1, none⟩ = some (.int .i64 x154001_2) := (blk_cell BK153.out 1).trans rfl
                    have hcz19_2 : wr.cell? ⟨gb153, 2, none⟩ = some (.int .i64 x154002_2) := (blk_cell BK153.out 2).trans rfl
                    have hfz19_0 := blk_frozen BK153.out 0
                    have hfz19_1 := blk_frozen BK153.out 1
                    have hfz19_2 := blk_frozen BK153.out 2
                    try go_wp2_with (first | ((with_reducible refine gate_dst (N := 12) rfl ?_); refine box_event ?hg (N := 12) ?hd (cs := #[.int .i64 0, .int .i64 0, .int .i64 0]) (t := 23) ?hr ?_; (case hd => rfl); (case hg => rfl); (case hr => first | (go_simp; done) | (go_simp; rfl)); intro gb154 hg w20 hbox hb; have n0_ := Aside0.mk (blk_below (g := gb153) (o := .cells #[.int .i64 x154000_2, .int .i64 x154001_2, .int .i64 x154002_2] 23 (0, 0)) (by (with_reducible repeat (first | refine blk_drewN ?_ _ | refine blk_drew ?_ | refine blk_alloc ?_ _)); exact BK153.out) hb); have n1_ := Aside0.mk (below_step (by repeat (first | (with_reducible first | exact HB.out | apply below_alloc | apply pw_below_drewN | apply below_drew1 | refine below_set ?_ GE153.out) | exact HB.out)) hb); have n2_ := Aside0.mk (hbox); have n3_ := Aside0.mk ((by rw [hg]; exact (below_size (by repeat (first | (with_reducible first | exact HB.out | apply below_alloc | apply pw_below_drewN | apply below_drew1 | refine below_set ?_ GE153.out) | exact HB.out))) : w.heap.size ≤ gb154)); have n4_ := Aside0.mk ((by rw [hg]; exact (below_size (by repeat (first | (with_reducible first | exact HB.out | apply below_alloc | apply pw_below_drewN | apply below_drew1 | refine below_set ?_ GE153.out) | exact HB.out))) : w.heap.size ≤ gb154)); have n5_ := Aside0.mk ((by rw [hg]; exact Nat.ne_of_lt (blk_lt (g := gb153) (o := .cells #[.int .i64 x154000_2, .int .i64 x154001_2, .int .i64 x154002_2] 23 (0, 0)) (by (with_reducible repeat (first | refine blk_drewN ?_ _ | refine blk_drew ?_ | refine blk_alloc ?_ _)); exact BK153.out)) : gb153 ≠ gb154)); have n6_ := Aside0.mk ((by rw [hg]; exact Nat.ne_of_gt (blk_lt (g := gb153) (o := .cells #[.int .i64 x154000_2, .int .i64 x154001_2, .int .i64 x154002_2] 23 (0, 0)) (by (with_reducible repeat (first | refine blk_drewN ?_ _ | refine blk_drew ?_ | refine blk_alloc ?_ _)); exact BK153.out)) : gb154 ≠ gb153)); clear BK153; clear HB; have BK153 := n0_; have HB := n1_; have BK154 := n2_; have GW154 := n3_; have GE154 := n4_; have NB153_154 := n5_; have NB154_153 := n6_; clear n0_ n1_ n2_ n3_ n4_ n5_ n6_; clear hb hbox hg; have hnb21 := NB154_153.out; have hnc21 := NB153_154.out; have hcz22_0 : w20.cell? ⟨gb154, 0, none⟩ = some (.int .i64 0) := (blk_cell BK154.out 0).trans rfl; have hcz22_1 : w20.cell? ⟨gb154, 1, none⟩ = some (.int .i64 0) := (blk_cell BK154.out 1).trans rfl; have hcz22_2 : w20.cell? ⟨gb154, 2, none⟩ = some (.int .i64 0) := (blk_cell BK154.out 2).trans rfl; have hfz22_0 := blk_frozen BK154.out 0; have hfz22_1 := blk_frozen BK154.out 1; have hfz22_2 := blk_frozen BK154.out 2))
                    have n0_ : Aside0 ((((w20.setCell ⟨gb154, 0, none⟩ (.int .i64 x154000_2)).setCell ⟨gb154, 1, none⟩ (.int .i64 x154001_2)).setCell ⟨gb154, 2, none⟩ (.int .i64 x154002_2)).heap[gb153]? = some (.cells #[.int .i64 x154000_2, .int .i64 x154001_2, .int .i64 x154002_2] 23 (0, 0))) := ⟨by (with_reducible repeat (first | refine blk_drewN ?_ _ | refine blk_drew ?_ | refine blk_alloc ?_ _)); refine blk_far ?_ NB153_154.out _; (with_reducible repeat (first | refine blk_drewN ?_ _ | refine blk_drew ?_ | refine blk_alloc ?_ _)); refine blk_far ?_ NB153_154.out _; (with_reducible repeat (first | refine blk_drewN ?_ _ | refine blk_drew ?_ | refine blk_alloc ?_ _)); refine blk_far ?_ NB153_154.out _; (with_reducible repeat (first | refine blk_drewN ?_ _ | refine blk_drew ?_ | refine blk_alloc ?_ _)); exact BK153.out⟩
                    have n1_ : Aside0 ((((w20.setCell ⟨gb154, 0, none⟩ (.int .i64 x154000_2)).setCell ⟨gb154, 1, none⟩ (.int .i64 x154001_2)).setCell ⟨gb154, 2, none⟩ (.int .i64 x154002_2)).heap[gb154]? = some (.cells #[.int .i64 x154000_2, .int .i64 x154001_2, .int .i64 x154002_2] 23 (0, 0))) := ⟨by (with_reducible repeat (first | refine blk_drewN ?_ _ | refine blk_drew ?_ | refine blk_alloc ?_ _)); refine blk_put (cs := #[.int .i64 x154000_2, .int .i64 x154001_2, .int .i64 0]) ?_ 2 _ rfl; (with_reducible repeat (first | refine blk_drewN ?_ _ | refine blk_drew ?_ | refine blk_alloc ?_ _)); refine blk_put (cs := #[.int .i64 x154000_2, .int .i64 0, .int .i64 0]) ?_ 1 _ rfl; (with_reducible repeat (first | refine blk_drewN ?_ _ | refine blk_drew ?_ | refine blk_alloc ?_ _)); refine blk_put (cs := #[.int .i64 0, .int .i64 0, .int .i64 0]) ?_ 0 _ rfl; (with_reducible repeat (first | refine blk_drewN ?_ _ | refine blk_drew ?_ | refine blk_alloc ?_ _)); exact BK154.out⟩
                    have n2_ : Aside0 (Below w.heap.size w (((w20.setCell ⟨gb154, 0, none⟩ (.int .i64 x154000_2)).setCell ⟨gb154, 1, none⟩ (.int .i64 x154001_2)).setCell ⟨gb154, 2, none⟩ (.int .i64 x154002_2))) := ⟨by repeat (first | (with_reducible first | exact HB.out | apply below_alloc | apply pw_below_drewN | apply below_drew1 | refine below_set ?_ GE153.out | refine below_set ?_ GE154.out) | exact HB.out)⟩
                    (try clear BK153)
                    (try clear BK154)
                    (try clear HB)
                    generalize (((w20.setCell ⟨gb154, 0, none⟩ (.int .i64 x154000_2)).setCell ⟨gb154, 1, none⟩ (.int .i64 x154001_2)).setCell ⟨gb154, 2, none⟩ (.int .i64 x154002_2)) = w23 at n0_ n1_ n2_ ⊢
                    have BK153 := n0_
                    have BK154 := n1_
                    have HB := n2_
                    clear n0_ n1_ n2_
                    have n0_ := Aside0.mk (blk_drew BK153.out)
                    have n1_ := Aside0.mk (blk_drew BK154.out)
                    have n2_ := Aside0.mk (below_drew1 HB.out)
                    clear BK153
                    clear BK154
                    clear HB
                    have BK153 := n0_
                    have BK154 := n1_
                    have HB := n2_
                    clear n0_ n1_ n2_
                    have p155 : 0 ≤ (x11_2 : Int) := of_decide_eq_true (by first | (with_reducible assumption) | assumption)
                    have q155 : x11_2 < (l0.length : Int) := of_decide_eq_true (by first | (with_reducible assumption) | assumption)
                    obtain ⟨ad155, e155, hx155_0, hx155_1, hx155_2⟩ := at_T25 HR0.out x11_2 p155 q155
                    have hw155_2 := hx155_2
                    have hw155_1 := hx155_1
                    have hw155_0 := hx155_0
                    cases e155
                    replace hx155_0 := (HB.out.cell (World.block_lt_of_cell? w _ hx155_0)).trans hx155_0
                    replace hx155_1 := (HB.out.cell (World.block_lt_of_cell? w _ hx155_1)).trans hx155_1
                    replace hx155_2 := (HB.out.cell (World.block_lt_of_cell? w _ hx155_2)).trans hx155_2
                    replace p155 := eq_true p155
                    replace q155 := eq_true q155
                    have p156 : 0 ≤ (x11_2 : Int) := of_decide_eq_true (by first | (with_reducible assumption) | assumption)
                    have q156 : x11_2 < (l0.length : Int) := of_decide_eq_true (by first | (with_reducible assumption) | assumption)
                    obtain ⟨ad156, e156, hx156_0, hx156_1, hx156_2⟩ := at_T25 HR0.out x11_2 p156 q156
                    have hw156_2 := hx156_2
                    have hw156_1 := hx156_1
                    have hw156_0 := hx156_0
                    obtain rfl : ad155 = ad156 := (by injection e156)
                    replace hx156_0 := (HB.out.cell (World.block_lt_of_cell? w _ hx156_0)).trans hx156_0
                    replace hx156_1 := (HB.out.cell (World.block_lt_of_cell? w _ hx156_1)).trans hx156_1
                    replace hx156_2 := (HB.out.cell (World.block_lt_of_cell? w _ hx156_2)).trans hx156_2
                    replace p156 := eq_true p156
                    replace q156 := eq_true q156
                    have p157 : 0 ≤ (x11_2 : Int) := of_decide_eq_true (by first | (with_reducible assumption) | assumption)
                    have q157 : x11_2 < (l0.length : Int) := of_decide_eq_true (by first | (with_reducible assumption) | assumption)
                    obtain ⟨ad157, e157, hx157_0, hx157_1, hx157_2⟩ := at_T25 HR0.out x11_2 p157 q157
                    have hw157_2 := hx157_2
                    have hw157_1 := hx157_1
                    have hw157_0 := hx157_0
                    obtain rfl : ad155 = ad157 := (by injection e157)
                    replace hx157_0 := (HB.out.cell (World.block_lt_of_cell? w _ hx157_0)).trans hx157_0
                    replace hx157_1 := (HB.out.cell (World.block_lt_of_cell? w _ hx157_1)).trans hx157_1
                    replace hx157_2 := (HB.out.cell (World.block_lt_of_cell? w _ hx157_2)).trans hx157_2
                    replace p157 := eq_true p157
                    replace q157 := eq_true q157
                    refine start_ (n := 18) (S := fun w' => w'.cell? ⟨gb153, 0, none⟩ = some (.int .i64 x154000_2) ∧ w'.cell? ⟨gb153, 1, none⟩ = some (.int .i64 x154001_2) ∧ w'.cell? ⟨gb153, 2, none⟩ = some (.int .i64 x154002_2) ∧ w'.cell? (ad155.add ((x11_2).toNat * 3)) = some (.int .i64 ((rd_T25 l0 x11_2).f0)) ∧ w'.cell? ⟨(ad155.add ((x11_2).toNat * 3)).block, (ad155.add ((x11_2).toNat * 3)).off + 1, none⟩ = some (.bool ((rd_T25 l0 x11_2).f1)) ∧ w'.cell? ⟨(ad155.add ((x11_2).toNat * 3)).block, (ad155.add ((x11_2).toNat * 3)).off + 2, none⟩ = some (.int .i64 ((rd_T25 l0 x11_2).f2)) ∧ w'.cell? (ad155.add ((x11_2).toNat * 3)) = some (.int .i64 ((rd_T25 l0 x11_2).f0)) ∧ w'.cell? ⟨(ad155.add ((x11_2).toNat * 3)).block, (ad155.add ((x11_2).toNat * 3)).off + 1, none⟩ = some (.bool ((rd_T25 l0 x11_2).f1)) ∧ w'.cell? ⟨(ad155.add ((x11_2).toNat * 3)).block, (ad155.add ((x11_2).toNat * 3)).off + 2, none⟩ = some (.int .i64 ((rd_T25 l0 x11_2).f2)) ∧ w'.cell? (ad155.add ((x11_2).toNat * 3)) = some (.int .i64 ((rd_T25 l0 x11_2).f0)) ∧ w'.cell? ⟨(ad155.add ((x11_2).toNat * 3)).block, (ad155.add ((x11_2).toNat * 3)).off + 1, none⟩ = some (.bool ((rd_T25 l0 x11_2).f1)) ∧ w'.cell? ⟨(ad155.add ((x11_2).toNat * 3)).block, (ad155.add ((x11_2).toNat * 3)).off + 2, none⟩ = some (.int .i64 ((rd_T25 l0 x11_2).f2))) (ds := [17]) #[false, false, false, false, false, false, false, false, false, false, false, false, false, false, false, false, false, false] (by kernel_rfl) rfl rfl ⟨(blk_cell BK153.out 0).trans rfl, (blk_cell BK153.out 1).trans rfl, (blk_cell BK153.out 2).trans rfl, ((HB.out.cell (World.block_lt_of_cell? w _ hw155_0)).trans hw155_0), ((HB.out.cell (World.block_lt_of_cell? w _ hw155_1)).trans hw155_1), ((HB.out.cell (World.block_lt_of_cell? w _ hw155_2)).trans hw155_2), ((HB.out.cell (World.block_lt_of_cell? w _ hw156_0)).trans hw156_0), ((HB.out.cell (World.block_lt_of_cell? w _ hw156_1)).trans hw156_1), ((HB.out.cell (World.block_lt_of_cell? w _ hw156_2)).trans hw156_2), ((HB.out.cell (World.block_lt_of_cell? w _ hw157_0)).trans hw157_0), ((HB.out.cell (World.block_lt_of_cell? w _ hw157_1)).trans hw157_1), ((HB.out.cell (World.block_lt_of_cell? w _ hw157_2)).trans hw157_2)⟩ (fun hHeld => ?_); refine with_tabW paternosterlaw10_FeedGoes.tab17 paternosterlaw10_FeedGoes.bits17 (fun HT_ HW_ => ?_)
                    generalize w23.drew = w24 at BK153 BK154 HB hx155_0 hx155_1 hx155_2 hx156_0 hx156_1 hx156_2 hx157_0 hx157_1 hx157_2 hHeld ⊢
                    refine pure_ (i := 1) (N := some 32) (v := ?_) (a' := ?_) #[false, true, false, false, false, false, false, false, false, false, false, false, false, false, false, false, false, false] rfl rfl (any_of HT_.out (by kernel_rfl)) (fun _ _ _ h => h) (Or.inl ⟨by rfl, ?_⟩) ?_ ?_
                    rotate_left
                    · intro w'
                      go_simp
                      with_reducible rfl
                    rotate_left
                    · simp only [Act.put, List.setIfInBounds_toArray, List.set_cons_zero, List.set_cons_succ, i64_w, i32_w]
                      rfl
                    refine pure_ (i := 2) (N := some 33) (v := ?_) (a' := ?_) #[false, true, true, false, false, false, false, false, false, false, false, false, false, false, false, false, false, false] rfl rfl (any_of HT_.out (by kernel_rfl)) (fun _ _ _ h => h) (Or.inl ⟨by rfl, ?_⟩) ?_ ?_
                    rotate_left
                    · intro w'
                      go_simp
                      with_reducible rfl
                    rotate_left
                    · simp only [Act.put, List.setIfInBounds_toArray, List.set_cons_zero, List.set_cons_succ, i64_w, i32_w]
                      rfl
                    refine pure_ (i := 3) (N := some 34) (v := ?_) (a' := ?_) #[false, true, true, true, false, false, false, false, false, false, false, false, false, false, false, false, false, false] rfl rfl (any_of HT_.out (by kernel_rfl)) (fun _ _ _ h => h) (Or.inl ⟨by rfl, ?_⟩) ?_ ?_
                    rotate_left
                    · intro w'
                      go_simp
                      with_reducible rfl
                    rotate_left
                    · simp only [Act.put, List.setIfInBounds_toArray, List.set_cons_zero, List.set_cons_succ, i64_w, i32_w]
                      rfl
                    refine pure_ (i := 4) (N := some 35) (v := ?_) (a' := ?_) #[false, true, true, true, true, false, false, false, false, false, false, false, false, false, false, false, false, false] rfl rfl (any_of HT_.out (by kernel_rfl)) (fun _ _ _ h => h) (Or.inl ⟨by rfl, ?_⟩) ?_ ?_
                    rotate_left
                    · intro w'
                      go_simp
                      with_reducible rfl
                    rotate_left
                    · simp only [Act.put, List.setIfInBounds_toArray, List.set_cons_zero, List.set_cons_succ, i64_w, i32_w]
                      rfl
                    refine pure_ (i := 6) (N := some 37) (v := ?_) (a' := ?_) #[false, true, true, true, true, false, true, false, false, false, false, false, false, false, false, false, false, false] rfl rfl (any_of HT_.out (by kernel_rfl)) (fun _ _ _ h => h) (Or.inl ⟨by rfl, ?_⟩) ?_ ?_
                    rotate_left
                    · intro w'
                      go_simp
                      with_reducible rfl
                    rotate_left
                    · simp only [Act.put, List.setIfInBounds_toArray, List.set_cons_zero, List.set_cons_succ, i64_w, i32_w]
                      rfl
                    refine pure_ (i := 7) (N := some 38) (v := ?_) (a' := ?_) #[false, true, true, true, true, false, true, true, false, false, false, false, false, false, false, false, false, false] rfl rfl (any_of HT_.out (by kernel_rfl)) (fun _ _ _ h => h) (Or.inl ⟨by rfl, ?_⟩) ?_ ?_
                    rotate_left
                    · intro w'
                      go_simp
                      with_reducible rfl
                    rotate_left
                    · simp only [Act.put, List.setIfInBounds_toArray, List.set_cons_zero, List.set_cons_succ, i64_w, i32_w]
                      rfl
                    refine pure_ (i := 8) (N := some 39) (v := ?_) (a' := ?_) #[false, true, true, true, true, false, true, true, true, false, false, false, false, false, false, false, false, false] rfl rfl (any_of HT_.out (by kernel_rfl)) (fun _ _ _ h => h) (Or.inl ⟨by rfl, ?_⟩) ?_ ?_
                    rotate_left
                    · intro w'
                      go_simp
                      with_reducible rfl
                    rotate_left
                    · simp only [Act.put, List.setIfInBounds_toArray, List.set_cons_zero, List.set_cons_succ, i64_w, i32_w]
                      rfl
                    refine pure_ (i := 9) (N := some 40) (v := ?_) (a' := ?_) #[false, true, true, true, true, false, true, true, true, true, false, false, false, false, false, false, false, false] rfl rfl (any_of HT_.out (by kernel_rfl)) (fun _ _ _ h => h) (Or.inl ⟨by rfl, ?_⟩) ?_ ?_
                    rotate_left
                    · intro w'
                      go_simp
                      with_reducible rfl
                    rotate_left
                    · simp only [Act.put, List.setIfInBounds_toArray, List.set_cons_zero, List.set_cons_succ, i64_w, i32_w]
                      rfl
                    refine pure_ (i := 11) (N := some 42) (v := ?_) (a' := ?_) #[false, true, true, true, true, false, true, true, true, true, false, true, false, false, false, false, false, false] rfl rfl (any_of HT_.out (by kernel_rfl)) (fun _ _ _ h => h) (Or.inl ⟨by rfl, ?_⟩) ?_ ?_
                    rotate_left
                    · intro w'
                      go_simp
                      with_reducible rfl
                    rotate_left
                    · simp only [Act.put, List.setIfInBounds_toArray, List.set_cons_zero, List.set_cons_succ, i64_w, i32_w]
                      rfl
                    refine pure_ (i := 12) (N := some 43) (v := ?_) (a' := ?_) #[false, true, true, true, true, false, true, true, true, true, false, true, true, false, false, false, false, false] rfl rfl (any_of HT_.out (by kernel_rfl)) (fun _ _ _ h => h) (Or.inl ⟨by rfl, ?_⟩) ?_ ?_
                    rotate_left
                    · intro w'
                      go_simp
                      with_reducible rfl
                    rotate_left
                    · simp only [Act.put, List.setIfInBounds_toArray, List.set_cons_zero, List.set_cons_succ, i64_w, i32_w]
                      rfl
                    refine pure_ (i := 13) (N := some 44) (v := ?_) (a' := ?_) #[false, true, true, true, true, false, true, true, true, true, false, true, true, true, false, false, false, false] rfl rfl (any_of HT_.out (by kernel_rfl)) (fun _ _ _ h => h) (Or.inl ⟨by rfl, ?_⟩) ?_ ?_
                    rotate_left
                    · intro w'
                      go_simp
                      with_reducible rfl
                    rotate_left
                    · simp only [Act.put, List.setIfInBounds_toArray, List.set_cons_zero, List.set_cons_succ, i64_w, i32_w]
                      rfl
                    refine pure_ (i := 14) (N := some 45) (v := ?_) (a' := ?_) #[false, true, true, true, true, false, true, true, true, true, false, true, true, true, true, false, false, false] rfl rfl (any_of HT_.out (by kernel_rfl)) (fun _ _ _ h => h) (Or.inl ⟨by rfl, ?_⟩) ?_ ?_
                    rotate_left
                    · intro w'
                      go_simp
                      with_reducible rfl
                    rotate_left
                    · simp only [Act.put, List.setIfInBounds_toArray, List.set_cons_zero, List.set_cons_succ, i64_w, i32_w]
                      rfl
                    refine take_ (i := 0) (N := some 31) (v := ?_) (a' := ?_) #[true, true, true, true, true, false, true, true, true, true, false, true, true, true, true, false, false, false] rfl rfl (take_ofW HT_.out HW_.out (by kernel_rfl)) (fun _ _ _ h => h) (Or.inl ⟨by rfl, ?_⟩) hHeld ?_ ?_
                    rotate_left
                    · rintro w' ⟨s0, s1, s2, s3, s4, s5, s6, s7, s8, s9, s10, s11⟩
                      go_simp
                      with_reducible rfl
                    rotate_left
                    · simp only [Act.put, List.setIfInBounds_toArray, List.set_cons_zero, List.set_cons_succ, i64_w, i32_w]
                      rfl
                    refine take_ (i := 5) (N := some 36) (v := ?_) (a' := ?_) #[true, true, true, true, true, true, true, true, true, true, false, true, true, true, true, false, false, false] rfl rfl (take_ofW HT_.out HW_.out (by kernel_rfl)) (fun _ _ _ h => h) (Or.inl ⟨by rfl, ?_⟩) hHeld ?_ ?_
                    rotate_left
                    · rintro w' ⟨s0, s1, s2, s3, s4, s5, s6, s7, s8, s9, s10, s11⟩
                      go_simp
                      with_reducible rfl
                    rotate_left
                    · simp only [Act.put, List.setIfInBounds_toArray, List.set_cons_zero, List.set_cons_succ, i64_w, i32_w]
                      rfl
                    refine take_ (i := 10) (N := some 41) (v := ?_) (a' := ?_) #[true, true, true, true, true, true, true, true, true, true, true, true, true, true, true, false, false, false] rfl rfl (take_ofW HT_.out HW_.out (by kernel_rfl)) (fun _ _ _ h => h) (Or.inl ⟨by rfl, ?_⟩) hHeld ?_ ?_
                    rotate_left
                    · rintro w' ⟨s0, s1, s2, s3, s4, s5, s6, s7, s8, s9, s10, s11⟩
                      go_simp
                      with_reducible rfl
                    rotate_left
                    · simp only [Act.put, List.setIfInBounds_toArray, List.set_cons_zero, List.set_cons_succ, i64_w, i32_w]
                      rfl
                    refine take_ (i := 15) (N := some 46) (v := ?_) (a' := ?_) #[true, true, true, true, true, true, true, true, true, true, true, true, true, true, true, true, false, false] rfl rfl (take_ofW HT_.out HW_.out (by kernel_rfl)) (fun _ _ _ h => h) (Or.inl ⟨by rfl, ?_⟩) hHeld ?_ ?_
                    rotate_left
                    · rintro w' ⟨s0, s1, s2, s3, s4, s5, s6, s7, s8, s9, s10, s11⟩
                      go_simp
                      with_reducible rfl
                    rotate_left
                    · simp only [Act.put, List.setIfInBounds_toArray, List.set_cons_zero, List.set_cons_succ, i64_w, i32_w]
                      rfl
                    refine one_ (i := 16) (N := some 47) #[true, true, true, true, true, true, true, true, true, true, true, true, true, true, true, true, true, false] rfl rfl (one_of HT_.out (by kernel_rfl)) (by decide) (fun K hK => ?_)
                    refine goes_ Try.func10 (by kernel_rfl) rfl #[.agg #[.int .i64 x154000_2, .int .i64 x154001_2, .int .i64 x154002_2], .int .i64 ((rd_T25 l0 x11_2).f0), .bool ((rd_T25 l0 x11_2).f1), .int .i64 ((rd_T25 l0 x11_2).f2)] (by rfl) rfl rfl (by (try simp only [List.map_toArray, List.map_cons, List.map_nil]); first | done | rfl | (simp only [List.length_drop, List.length_take]; rfl)) ?_
                    with_reducible refine (feed_Feed_Step.calls x154000_2 x154001_2 x154002_2 ((rd_T25 l0 x11_2).f0) ((rd_T25 l0 x11_2).f1) ((rd_T25 l0 x11_2).f2) t158 t159 t160 _ A16.out).mono ?_
                    rintro e w25 ⟨rfl, hb⟩
                    refine ⟨_, rfl, ?_⟩
                    have n0_ := Aside0.mk (blk_below (g := gb153) (o := .cells #[.int .i64 x154000_2, .int .i64 x154001_2, .int .i64 x154002_2] 23 (0, 0)) (by (with_reducible repeat (first | refine blk_drewN ?_ _ | refine blk_drew ?_ | refine blk_alloc ?_ _)); exact BK153.out) hb)
                    have n1_ := Aside0.mk (blk_below (g := gb154) (o := .cells #[.int .i64 x154000_2, .int .i64 x154001_2, .int .i64 x154002_2] 23 (0, 0)) (by (with_reducible repeat (first | refine blk_drewN ?_ _ | refine blk_drew ?_ | refine blk_alloc ?_ _)); exact BK154.out) hb)
                    have n2_ := Aside0.mk (below_step (by repeat (first | (with_reducible first | exact HB.out | apply below_alloc | apply pw_below_drewN | apply below_drew1 | refine below_set ?_ GE153.out | refine below_set ?_ GE154.out) | exact HB.out)) hb)
                    clear BK153
                    clear BK154
                    clear HB
                    have BK153 := n0_
                    have BK154 := n1_
                    have HB := n2_
                    clear n0_ n1_ n2_
                    (try clear hb)
                    (try clear hb2)
                    (try clear hk)
                    (try clear hi)
                    refine hK.out _ _ ⟨(blk_cell BK153.out 0).trans rfl, (blk_cell BK153.out 1).trans rfl, (blk_cell BK153.out 2).trans rfl, ((HB.out.cell (World.block_lt_of_cell? w _ hw155_0)).trans hw155_0), ((HB.out.cell (World.block_lt_of_cell? w _ hw155_1)).trans hw155_1), ((HB.out.cell (World.block_lt_of_cell? w _ hw155_2)).trans hw155_2), ((HB.out.cell (World.block_lt_of_cell? w _ hw156_0)).trans hw156_0), ((HB.out.cell (World.block_lt_of_cell? w _ hw156_1)).trans hw156_1), ((HB.out.cell (World.block_lt_of_cell? w _ hw156_2)).trans hw156_2), ((HB.out.cell (World.block_lt_of_cell? w _ hw157_0)).trans hw157_0), ((HB.out.cell (World.block_lt_of_cell? w _ hw157_1)).trans hw157_1), ((HB.out.cell (World.block_lt_of_cell? w _ hw157_2)).trans hw157_2)⟩ (fun hHeld => ?_)
                    clear hK K
                    refine norm_ (a' := ?_) ?_ ?_
                    rotate_left
                    · show Act.put _ (some 47) _ = _
                      simp only [Act.put, List.setIfInBounds_toArray, List.set_cons_zero, List.set_cons_succ, i64_w, i32_w]
                      rfl
                    refine last_ (i := 17) (N := none) #[true, true, true, true, true, true, true, true, true, true, true, true, true, true, true, true, true, true] rfl rfl (one_of HT_.out (by kernel_rfl)) (by decide) (fun K hK => ?_)
                    have hs26 : w25.cell? ⟨gb153, 0, none⟩ = some (.int .i64 x154000_2) := (blk_cell BK153.out 0).trans rfl
                    have hfs26 := blk_frozen BK153.out 0
                    have hns26_1 := NB154_153.out
                    have hms26_1 := NB153_154.out
                    have hs27 : w25.cell? ⟨gb153, 1, none⟩ = some (.int .i64 x154001_2) := (blk_cell BK153.out 1).trans rfl
                    have hfs27 := blk_frozen BK153.out 1
                    have hns27_1 := NB154_153.out
                    have hms27_1 := NB153_154.out
                    have hs28 : w25.cell? ⟨gb153, 2, none⟩ = some (.int .i64 x154002_2) := (blk_cell BK153.out 2).trans rfl
                    have hfs28 := blk_frozen BK153.out 2
                    have hns28_1 := NB154_153.out
                    have hms28_1 := NB153_154.out
                    refine skip_ (w1 := ?_) (by rfl) rfl ?_ ?_
                    rotate_left
                    · go_simp
                      rfl
                    refine hK.out _ _ ?_
                    clear hK K
                    refine done_ (done_of HT_.out (by kernel_rfl)) ?_
                    have hcz29_0 : w25.cell? ⟨gb153, 0, none⟩ = some (.int .i64 x154000_2) := (blk_cell BK153.out 0).trans rfl
                    have hcz29_1 : w25.cell? ⟨gb153, 1, none⟩ = some (.int .i64 x154001_2) := (blk_cell BK153.out 1).trans rfl
                    have hcz29_2 : w25.cell? ⟨gb153, 2, none⟩ = some (.int .i64 x154002_2) := (blk_cell BK153.out 2).trans rfl
                    have hfz29_0 := blk_frozen BK153.out 0
                    have hfz29_1 := blk_frozen BK153.out 1
                    have hfz29_2 := blk_frozen BK153.out 2
                    have hcz30_0 : w25.cell? ⟨gb154, 0, none⟩ = some (.int .i64 x154000_2) := (blk_cell BK154.out 0).trans rfl
                    have hcz30_1 : w25.cell? ⟨gb154, 1, none⟩ = some (.int .i64 x154001_2) := (blk_cell BK154.out 1).trans rfl
                    have hcz30_2 : w25.cell? ⟨gb154, 2, none⟩ = some (.int .i64 x154002_2) := (blk_cell BK154.out 2).trans rfl
                    have hfz30_0 := blk_frozen BK154.out 0
                    have hfz30_1 := blk_frozen BK154.out 1
                    have hfz30_2 := blk_frozen BK154.out 2
                    go_upto_if 53 with (fail)
                    go_cut [7, 8, 9, 10] (fun v7 v8 v9 v10 wc => ∃ (kq : Nat) (x7_17 : Int) (x8_17 : Int) (x9_17 : Int) (x10_17 : Int), v7 = .int .i64 x7_17 ∧ v8 = .int .i64 x8_17 ∧ v9 = .int .i64 x9_17 ∧ v10 = .int .i64 x10_17 ∧ Aside0 (paternosterlaw10_FeedGoes.j3 kq l0 x7_17 x8_17 x9_17 x10_17 x11_2 t158 t159 t160 = some r) ∧ Aside0 (kq ≤ k2) ∧ Aside0 (wc.heap[gb153]? = some (.cells #[.int .i64 t158, .int .i64 t159, .int .i64 t160] 23 (0, 0))) ∧ Aside0 (wc.heap[gb154]? = some (.cells #[.int .i64 x154000_2, .int .i64 x154001_2, .int .i64 x154002_2] 23 (0, 0))) ∧ Aside0 (Below w.heap.size w wc))
                    case first =>
                      have H := HC18.out
                      clear HC18
                      by_cases c31 : x154000_2 = 0
                      · rw [if_pos c31] at H
                        have c31b0 : (x154000_2 == 0) = true := beq_iff_eq.mpr c31
                        have c31b1 : (x154000_2 != 0) = false := bne_eq_false_iff_eq.mpr c31
                        clear c31
                        (first | rw [c31b0] | (simp only [i64_w, i32_w]; rw [c31b0]) | skip)
                        have H' := Aside0.mk H
                        clear H
                        go_wp2
                        go_meet
                        case rel => exact ⟨_, (x7_2), (x8_2), (x9_2), (x10_2), (by first | rfl | (simp; done) | (simp [*]; done)), (by first | rfl | (simp; done) | (simp [*]; done)), (by first | rfl | (simp; done) | (simp [*]; done)), (by first | rfl | (simp; done) | (simp [*]; done)), H', ⟨by have := HJ6.out; have := HK2.out; first | omega | exact Nat.le_refl _⟩, ⟨by (with_reducible repeat (first | refine blk_drewN ?_ _ | refine blk_drew ?_ | refine blk_alloc ?_ _)); refine blk_put (cs := #[.int .i64 t158, .int .i64 t159, .int .i64 x154002_2]) ?_ 2 _ rfl; (with_reducible repeat (first | refine blk_drewN ?_ _ | refine blk_drew ?_ | refine blk_alloc ?_ _)); refine blk_put (cs := #[.int .i64 t158, .int .i64 x154001_2, .int .i64 x154002_2]) ?_ 1 _ rfl; (with_reducible repeat (first | refine blk_drewN ?_ _ | refine blk_drew ?_ | refine blk_alloc ?_ _)); refine blk_put (cs := #[.int .i64 x154000_2, .int .i64 x154001_2, .int .i64 x154002_2]) ?_ 0 _ rfl; (with_reducible repeat (first | refine blk_drewN ?_ _ | refine blk_drew ?_ | refine blk_alloc ?_ _)); exact BK153.out⟩, ⟨by (with_reducible repeat (first | refine blk_drewN ?_ _ | refine blk_drew ?_ | refine blk_alloc ?_ _)); refine blk_far ?_ NB154_153.out _; (with_reducible repeat (first | refine blk_drewN ?_ _ | refine blk_drew ?_ | refine blk_alloc ?_ _)); refine blk_far ?_ NB154_153.out _; (with_reducible repeat (first | refine blk_drewN ?_ _ | refine blk_drew ?_ | refine blk_alloc ?_ _)); refine blk_far ?_ NB154_153.out _; (with_reducible repeat (first | refine blk_drewN ?_ _ | refine blk_drew ?_ | refine blk_alloc ?_ _)); exact BK154.out⟩, ⟨by repeat (first | (with_reducible first | exact HB.out | apply below_alloc | apply pw_below_drewN | apply below_drew1 | refine below_set ?_ GE153.out | refine below_set ?_ GE154.out) | exact HB.out)⟩⟩
                      · rw [if_neg c31] at H
                        have c31b0 : (x154000_2 == 0) = false := beq_eq_false_iff_ne.mpr c31
                        have c31b1 : (x154000_2 != 0) = true := bne_iff_ne.mpr c31
                        (first | rw [c31b0] | (simp only [i64_w, i32_w]; rw [c31b0]) | skip)
                        have HC32 := Aside0.mk H
                        clear H
                        go_upto_region 20 with (fail)
                        go_cut [76] (fun v76 wc => ∃ (kq : Nat) (x76_31 : Bool), v76 = .bool x76_31 ∧ Aside0 (paternosterlaw10_FeedGoes.j2 kq l0 x11_2 x76_31 t158 t159 t160 x154000_2 x154001_2 x154002_2 = some r) ∧ Aside0 (kq ≤ k2) ∧ Aside0 (wc.heap[gb153]? = some (.cells #[.int .i64 t158, .int .i64 t159, .int .i64 t160] 23 (0, 0))) ∧ Aside0 (wc.heap[gb154]? = some (.cells #[.int .i64 x154000_2, .int .i64 x154001_2, .int .i64 x154002_2] 23 (0, 0))) ∧ Aside0 (Below w.heap.size w wc))
                        case first =>
                          have H := HC32.out
                          clear HC32
                          obtain ⟨bq33, hbq33⟩ : ∃ b_ : Bool, b_ = ((rd_T25 l0 x11_2).f1) := ⟨_, rfl⟩
                          replace H : (if (bq33 = true) then (if ((rd_T25 l0 x11_2).f0) = x154000_2 then (paternosterlaw10_FeedGoes.j2 k2 l0 x11_2 true t158 t159 t160 x154000_2 x154001_2 x154002_2) else ((feed_Feed_Power.f k2 x154000_2 x154001_2 x154002_2 true true).bind fun t163 => (paternosterlaw10_FeedGoes.j2 k2 l0 x11_2 (t163 != x154000_2) t158 t159 t160 x154000_2 x154001_2 x154002_2))) else (paternosterlaw10_FeedGoes.j2 k2 l0 x11_2 true t158 t159 t160 x154000_2 x154001_2 x154002_2)) = some r := by rw [← hbq33] at H; exact H
                          have Nbq33 := Aside0.mk hbq33
                          clear hbq33
                          (try rw [← Nbq33.out])
                          by_cases c34 : (bq33 = true)
                          · subst c34
                            have H1 : (if ((rd_T25 l0 x11_2).f0) = x154000_2 then (paternosterlaw10_FeedGoes.j2 k2 l0 x11_2 true t158 t159 t160 x154000_2 x154001_2 x154002_2) else ((feed_Feed_Power.f k2 x154000_2 x154001_2 x154002_2 true true).bind fun t163 => (paternosterlaw10_FeedGoes.j2 k2 l0 x11_2 (t163 != x154000_2) t158 t159 t160 x154000_2 x154001_2 x154002_2))) = some r := by rw [if_pos rfl] at H; exact H
                            clear H
                            have H := H1
                            clear H1
                            by_cases c35 : ((rd_T25 l0 x11_2).f0) = x154000_2
                            · rw [if_pos c35] at H
                              have c35b0 : (((rd_T25 l0 x11_2).f0) == x154000_2) = true := beq_iff_eq.mpr c35
                              have c35b1 : (((rd_T25 l0 x11_2).f0) != x154000_2) = false := bne_eq_false_iff_eq.mpr c35
                              clear c35
                              have H' := Aside0.mk H
                              clear H
                              try go_wp2
                              have n0_ : Aside0 ((((w25.setCell ⟨gb153, 0, none⟩ (.int .i64 t158)).setCell ⟨gb153, 1, none⟩ (.int .i64 t159)).setCell ⟨gb153, 2, none⟩ (.int .i64 t160)).heap[gb153]? = some (.cells #[.int .i64 t158, .int .i64 t159, .int .i64 t160] 23 (0, 0))) := ⟨by (with_reducible repeat (first | refine blk_drewN ?_ _ | refine blk_drew ?_ | refine blk_alloc ?_ _)); refine blk_put (cs := #[.int .i64 t158, .int .i64 t159, .int .i64 x154002_2]) ?_ 2 _ rfl; (with_reducible repeat (first | refine blk_drewN ?_ _ | refine blk_drew ?_ | refine blk_alloc ?_ _)); refine blk_put (cs := #[.int .i64 t158, .int .i64 x154001_2, .int .i64 x154002_2]) ?_ 1 _ rfl; (with_reducible repeat (first | refine blk_drewN ?_ _ | refine blk_drew ?_ | refine blk_alloc ?_ _)); refine blk_put (cs := #[.int .i64 x154000_2, .int .i64 x154001_2, .int .i64 x154002_2]) ?_ 0 _ rfl; (with_reducible repeat (first | refine blk_drewN ?_ _ | refine blk_drew ?_ | refine blk_alloc ?_ _)); exact BK153.out⟩
                              have n1_ : Aside0 ((((w25.setCell ⟨gb153, 0, none⟩ (.int .i64 t158)).setCell ⟨gb153, 1, none⟩ (.int .i64 t159)).setCell ⟨gb153, 2, none⟩ (.int .i64 t160)).heap[gb154]? = some (.cells #[.int .i64 x154000_2, .int .i64 x154001_2, .int .i64 x154002_2] 23 (0, 0))) := ⟨by (with_reducible repeat (first | refine blk_drewN ?_ _ | refine blk_drew ?_ | refine blk_alloc ?_ _)); refine blk_far ?_ NB154_153.out _; (with_reducible repeat (first | refine blk_drewN ?_ _ | refine blk_drew ?_ | refine blk_alloc ?_ _)); refine blk_far ?_ NB154_153.out _; (with_reducible repeat (first | refine blk_drewN ?_ _ | refine blk_drew ?_ | refine blk_alloc ?_ _)); refine blk_far ?_ NB154_153.out _; (with_reducible repeat (first | refine blk_drewN ?_ _ | refine blk_drew ?_ | refine blk_alloc ?_ _)); exact BK154.out⟩
                              have n2_ : Aside0 (Below w.heap.size w (((w25.setCell ⟨gb153, 0, none⟩ (.int .i64 t158)).setCell ⟨gb153, 1, none⟩ (.int .i64 t159)).setCell ⟨gb153, 2, none⟩ (.int .i64 t160))) := ⟨by repeat (first | (with_reducible first | exact HB.out | apply below_alloc | apply pw_below_drewN | apply below_drew1 | refine below_set ?_ GE153.out | refine below_set ?_ GE154.out) | exact HB.out)⟩
                              (try clear BK153)
                              (try clear BK154)
                              (try clear HB)
                              generalize (((w25.setCell ⟨gb153, 0, none⟩ (.int .i64 t158)).setCell ⟨gb153, 1, none⟩ (.int .i64 t159)).setCell ⟨gb153, 2, none⟩ (.int .i64 t160)) = w36 at n0_ n1_ n2_ ⊢
                              have BK153 := n0_
                              have BK154 := n1_
                              have HB := n2_
                              clear n0_ n1_ n2_
                              have n0_ := Aside0.mk (blk_drew BK153.out)
                              have n1_ := Aside0.mk (blk_drew BK154.out)
                              have n2_ := Aside0.mk (below_drew1 HB.out)
                              clear BK153
                              clear BK154
                              clear HB
                              have BK153 := n0_
                              have BK154 := n1_
                              have HB := n2_
                              clear n0_ n1_ n2_
                              have p161 : 0 ≤ (x11_2 : Int) := of_decide_eq_true (by first | (with_reducible assumption) | assumption)
                              have q161 : x11_2 < (l0.length : Int) := of_decide_eq_true (by first | (with_reducible assumption) | assumption)
                              obtain ⟨ad161, e161, hx161_0, hx161_1, hx161_2⟩ := at_T25 HR0.out x11_2 p161 q161
                              have hw161_2 := hx161_2
                              have hw161_1 := hx161_1
                              have hw161_0 := hx161_0
                              (try rw [← Nbq33.out] at hx161_1)
                              (try rw [← Nbq33.out] at hw161_1)
                              obtain rfl : ad155 = ad161 := (by injection e161)
                              replace hx161_0 := (HB.out.cell (World.block_lt_of_cell? w _ hx161_0)).trans hx161_0
                              replace hx161_1 := (HB.out.cell (World.block_lt_of_cell? w _ hx161_1)).trans hx161_1
                              replace hx161_2 := (HB.out.cell (World.block_lt_of_cell? w _ hx161_2)).trans hx161_2
                              replace p161 := eq_true p161
                              replace q161 := eq_true q161
                              have p162 : 0 ≤ (x11_2 : Int) := of_decide_eq_true (by first | (with_reducible assumption) | assumption)
                              have q162 : x11_2 < (l0.length : Int) := of_decide_eq_true (by first | (with_reducible assumption) | assumption)
                              obtain ⟨ad162, e162, hx162_0, hx162_1, hx162_2⟩ := at_T25 HR0.out x11_2 p162 q162
                              have hw162_2 := hx162_2
                              have hw162_1 := hx162_1
                              have hw162_0 := hx162_0
                              (try rw [← Nbq33.out] at hx162_1)
                              (try rw [← Nbq33.out] at hw162_1)
                              obtain rfl : ad155 = ad162 := (by injection e162)
                              replace hx162_0 := (HB.out.cell (World.block_lt_of_cell? w _ hx162_0)).trans hx162_0
                              replace hx162_1 := (HB.out.cell (World.block_lt_of_cell? w _ hx162_1)).trans hx162_1
                              replace hx162_2 := (HB.out.cell (World.block_lt_of_cell? w _ hx162_2)).trans hx162_2
                              replace p162 := eq_true p162
                              replace q162 := eq_true q162
                              refine start_ (n := 23) (S := fun w' => w'.cell? ⟨gb154, 0, none⟩ = some (.int .i64 x154000_2) ∧ w'.cell? ⟨gb154, 1, none⟩ = some (.int .i64 x154001_2) ∧ w'.cell? ⟨gb154, 2, none⟩ = some (.int .i64 x154002_2) ∧ w'.cell? (ad155.add ((x11_2).toNat * 3)) = some (.int .i64 ((rd_T25 l0 x11_2).f0)) ∧ w'.cell? ⟨(ad155.add ((x11_2).toNat * 3)).block, (ad155.add ((x11_2).toNat * 3)).off + 1, none⟩ = some (.bool true) ∧ w'.cell? ⟨(ad155.add ((x11_2).toNat * 3)).block, (ad155.add ((x11_2).toNat * 3)).off + 2, none⟩ = some (.int .i64 ((rd_T25 l0 x11_2).f2)) ∧ w'.cell? (ad155.add ((x11_2).toNat * 3)) = some (.int .i64 ((rd_T25 l0 x11_2).f0)) ∧ w'.cell? ⟨(ad155.add ((x11_2).toNat * 3)).block, (ad155.add ((x11_2).toNat * 3)).off + 1, none⟩ = some (.bool (true)) ∧ w'.cell? ⟨(ad155.add ((x11_2).toNat * 3)).block, (ad155.add ((x11_2).toNat * 3)).off + 2, none⟩ = some (.int .i64 ((rd_T25 l0 x11_2).f2))) (ds := []) #[false, false, false, false, false, false, false, false, false, false, false, false, false, false, false, false, false, false, false, false, false, false, false] (by kernel_rfl) rfl rfl ⟨(blk_cell BK154.out 0).trans rfl, (blk_cell BK154.out 1).trans rfl, (blk_cell BK154.out 2).trans rfl, ((HB.out.cell (World.block_lt_of_cell? w _ hw161_0)).trans hw161_0), ((HB.out.cell (World.block_lt_of_cell? w _ hw161_1)).trans hw161_1), ((HB.out.cell (World.block_lt_of_cell? w _ hw161_2)).trans hw161_2), ((HB.out.cell (World.block_lt_of_cell? w _ hw162_0)).trans hw162_0), ((HB.out.cell (World.block_lt_of_cell? w _ hw162_1)).trans hw162_1), ((HB.out.cell (World.block_lt_of_cell? w _ hw162_2)).trans hw162_2)⟩ (fun hHeld => ?_); refine with_tabW paternosterlaw10_FeedGoes.tab20 paternosterlaw10_FeedGoes.bits20 (fun HT_ HW_ => ?_)
                              generalize w36.drew = w37 at BK153 BK154 HB hx161_0 hx161_1 hx161_2 hx162_0 hx162_1 hx162_2 hHeld ⊢
                              refine pure_ (i := 0) (N := some 54) (v := ?_) (a' := ?_) #[true, false, false, false, false, false, false, false, false, false, false, false, false, false, false, false, false, false, false, false, false, false, false] rfl rfl (any_of HT_.out (by kernel_rfl)) (fun _ _ _ h => h) (Or.inl ⟨by rfl, ?_⟩) ?_ ?_
                              rotate_left
                              · intro w'
                                go_simp
                                with_reducible rfl
                              rotate_left
                              · simp only [Act.put, List.setIfInBounds_toArray, List.set_cons_zero, List.set_cons_succ, i64_w, i32_w]
                                rfl
                              refine pure_ (i := 1) (N := some 55) (v := ?_) (a' := ?_) #[true, true, false, false, false, false, false, false, false, false, false, false, false, false, false, false, false, false, false, false, false, false, false] rfl rfl (any_of HT_.out (by kernel_rfl)) (fun _ _ _ h => h) (Or.inl ⟨by rfl, ?_⟩) ?_ ?_
                              rotate_left
                              · intro w'
                                go_simp
                                with_reducible rfl
                              rotate_left
                              · simp only [Act.put, List.setIfInBounds_toArray, List.set_cons_zero, List.set_cons_succ, i64_w, i32_w]
                                rfl
                              refine pure_ (i := 2) (N := some 56) (v := ?_) (a' := ?_) #[true, true, true, false, false, false, false, false, false, false, false, false, false, false, false, false, false, false, false, false, false, false, false] rfl rfl (any_of HT_.out (by kernel_rfl)) (fun _ _ _ h => h) (Or.inl ⟨by rfl, ?_⟩) ?_ ?_
                              rotate_left
                              · intro w'
                                go_simp
                                with_reducible rfl
                              rotate_left
                              · simp only [Act.put, List.setIfInBounds_toArray, List.set_cons_zero, List.set_cons_succ, i64_w, i32_w]
                                rfl
                              refine pure_ (i := 3) (N := some 57) (v := ?_) (a' := ?_) #[true, true, true, true, false, false, false, false, false, false, false, false, false, false, false, false, false, false, false, false, false, false, false] rfl rfl (any_of HT_.out (by kernel_rfl)) (fun _ _ _ h => h) (Or.inl ⟨by rfl, ?_⟩) ?_ ?_
                              rotate_left
                              · intro w'
                                go_simp
                                with_reducible rfl
                              rotate_left
                              · simp only [Act.put, List.setIfInBounds_toArray, List.set_cons_zero, List.set_cons_succ, i64_w, i32_w]
                                rfl
                              refine take_ (i := 4) (N := some 58) (v := ?_) (a' := ?_) #[true, true, true, true, true, false, false, false, false, false, false, false, false, false, false, false, false, false, false, false, false, false, false] rfl rfl (take_ofW HT_.out HW_.out (by kernel_rfl)) (fun _ _ _ h => h) (Or.inl ⟨by rfl, ?_⟩) hHeld ?_ ?_
                              rotate_left
                              · rintro w' ⟨s0, s1, s2, s3, s4, s5, s6, s7, s8⟩
                                go_simp
                                with_reducible rfl
                              rotate_left
                              · simp only [Act.put, List.setIfInBounds_toArray, List.set_cons_zero, List.set_cons_succ, i64_w, i32_w]
                                rfl
                              refine pure_ (i := 5) (N := some 59) (v := ?_) (a' := ?_) #[true, true, true, true, true, true, false, false, false, false, false, false, false, false, false, false, false, false, false, false, false, false, false] rfl rfl (any_of HT_.out (by kernel_rfl)) (fun _ _ _ h => h) (Or.inl ⟨by rfl, ?_⟩) ?_ ?_
                              rotate_left
                              · intro w'
                                go_simp
                                with_reducible rfl
                              rotate_left
                              · simp only [Act.put, List.setIfInBounds_toArray, List.set_cons_zero, List.set_cons_succ, i64_w, i32_w]
                                rfl
                              refine pure_ (i := 6) (N := some 60) (v := ?_) (a' := ?_) #[true, true, true, true, true, true, true, false, false, false, false, false, false, false, false, false, false, false, false, false, false, false, false] rfl rfl (any_of HT_.out (by kernel_rfl)) (fun _ _ _ h => h) (Or.inl ⟨by rfl, ?_⟩) ?_ ?_
                              rotate_left
                              · intro w'
                                go_simp
                                with_reducible rfl
                              rotate_left
                              · simp only [Act.put, List.setIfInBounds_toArray, List.set_cons_zero, List.set_cons_succ, i64_w, i32_w]
                                rfl
                              refine pure_ (i := 7) (N := some 61) (v := ?_) (a' := ?_) #[true, true, true, true, true, true, true, true, false, false, false, false, false, false, false, false, false, false, false, false, false, false, false] rfl rfl (any_of HT_.out (by kernel_rfl)) (fun _ _ _ h => h) (Or.inl ⟨by rfl, ?_⟩) ?_ ?_
                              rotate_left
                              · intro w'
                                go_simp
                                with_reducible rfl
                              rotate_left
                              · simp only [Act.put, List.setIfInBounds_toArray, List.set_cons_zero, List.set_cons_succ, i64_w, i32_w]
                                rfl
                              refine pure_ (i := 8) (N := some 62) (v := ?_) (a' := ?_) #[true, true, true, true, true, true, true, true, true, false, false, false, false, false, false, false, false, false, false, false, false, false, false] rfl rfl (any_of HT_.out (by kernel_rfl)) (fun _ _ _ h => h) (Or.inl ⟨by rfl, ?_⟩) ?_ ?_
                              rotate_left
                              · intro w'
                                go_simp
                                with_reducible rfl
                              rotate_left
                              · simp only [Act.put, List.setIfInBounds_toArray, List.set_cons_zero, List.set_cons_succ, i64_w, i32_w]
                                rfl
                              refine pure_ (i := 9) (N := some 63) (v := ?_) (a' := ?_) #[true, true, true, true, true, true, true, true, true, true, false, false, false, false, false, false, false, false, false, false, false, false, false] rfl rfl (any_of HT_.out (by kernel_rfl)) (fun _ _ _ h => h) (Or.inl ⟨by rfl, ?_⟩) ?_ ?_
                              rotate_left
                              · intro w'
                                go_simp
                                with_reducible rfl
                              rotate_left
                              · simp only [Act.put, List.setIfInBounds_toArray, List.set_cons_zero, List.set_cons_succ, i64_w, i32_w]
                                rfl
                              refine pure_ (i := 10) (N := some 64) (v := ?_) (a' := ?_) #[true, true, true, true, true, true, true, true, true, true, true, false, false, false, false, false, false, false, false, false, false, false, false] rfl rfl (any_of HT_.out (by kernel_rfl)) (fun _ _ _ h => h) (Or.inl ⟨by rfl, ?_⟩) ?_ ?_
                              rotate_left
                              · intro w'
                                go_simp
                                with_reducible rfl
                              rotate_left
                              · simp only [Act.put, List.setIfInBounds_toArray, List.set_cons_zero, List.set_cons_succ, i64_w, i32_w]
                                rfl
                              refine pure_ (i := 12) (N := some 66) (v := ?_) (a' := ?_) #[true, true, true, true, true, true, true, true, true, true, true, false, true, false, false, false, false, false, false, false, false, false, false] rfl rfl (any_of HT_.out (by kernel_rfl)) (fun _ _ _ h => h) (Or.inl ⟨by rfl, ?_⟩) ?_ ?_
                              rotate_left
                              · intro w'
                                go_simp
                                with_reducible rfl
                              rotate_left
                              · simp only [Act.put, List.setIfInBounds_toArray, List.set_cons_zero, List.set_cons_succ, i64_w, i32_w]
                                rfl
                              refine take_ (i := 11) (N := some 65) (v := ?_) (a' := ?_) #[true, true, true, true, true, true, true, true, true, true, true, true, true, false, false, false, false, false, false, false, false, false, false] rfl rfl (take_ofW HT_.out HW_.out (by kernel_rfl)) (fun _ _ _ h => h) (Or.inl ⟨by rfl, ?_⟩) hHeld ?_ ?_
                              rotate_left
                              · rintro w' ⟨s0, s1, s2, s3, s4, s5, s6, s7, s8⟩
                                go_simp
                                with_reducible rfl
                              rotate_left
                              · simp only [Act.put, List.setIfInBounds_toArray, List.set_cons_zero, List.set_cons_succ, i64_w, i32_w]
                                rfl
                              refine take_ (i := 13) (N := some 67) (v := ?_) (a' := ?_) #[true, true, true, true, true, true, true, true, true, true, true, true, true, true, false, false, false, false, false, false, false, false, false] rfl rfl (take_ofW HT_.out HW_.out (by kernel_rfl)) (fun _ _ _ h => h) (Or.inl ⟨by rfl, ?_⟩) hHeld ?_ ?_
                              rotate_left
                              · rintro w' ⟨s0, s1, s2, s3, s4, s5, s6, s7, s8⟩
                                go_simp
                                with_reducible rfl
                              rotate_left
                              · simp only [Act.put, List.setIfInBounds_toArray, List.set_cons_zero, List.set_cons_succ, i64_w, i32_w]
                                rfl
                              refine pure_ (i := 14) (N := some 68) (v := ?_) (a' := ?_) #[true, true, true, true, true, true, true, true, true, true, true, true, true, true, true, false, false, false, false, false, false, false, false] rfl rfl (any_of HT_.out (by kernel_rfl)) (fun _ _ _ h => h) (Or.inl ⟨by rfl, ?_⟩) ?_ ?_
                              rotate_left
                              · intro w'
                                go_simp
                                with_reducible rfl
                              rotate_left
                              · simp only [Act.put, List.setIfInBounds_toArray, List.set_cons_zero, List.set_cons_succ, i64_w, i32_w]
                                rfl
                              refine pure_ (i := 15) (N := some 69) (v := ?_) (a' := ?_) #[true, true, true, true, true, true, true, true, true, true, true, true, true, true, true, true, false, false, false, false, false, false, false] rfl rfl (any_of HT_.out (by kernel_rfl)) (fun _ _ _ h => h) (Or.inl ⟨by rfl, ?_⟩) ?_ ?_
                              rotate_left
                              · intro w'
                                go_simp
                                with_reducible rfl
                              rotate_left
                              · simp only [Act.put, List.setIfInBounds_toArray, List.set_cons_zero, List.set_cons_succ, i64_w, i32_w]
                                rfl
                              refine pure_ (i := 16) (N := some 70) (v := ?_) (a' := ?_) #[true, true, true, true, true, true, true, true, true, true, true, true, true, true, true, true, true, false, false, false, false, false, false] rfl rfl (any_of HT_.out (by kernel_rfl)) (fun _ _ _ h => h) (Or.inl ⟨by rfl, ?_⟩) ?_ ?_
                              rotate_left
                              · intro w'
                                go_simp
                                with_reducible rfl
                              rotate_left
                              · simp only [Act.put, List.setIfInBounds_toArray, List.set_cons_zero, List.set_cons_succ, i64_w, i32_w]
                                rfl
                              refine pure_ (i := 17) (N := some 71) (v := undef) (a' := ?_) #[true, true, true, true, true, true, true, true, true, true, true, true, true, true, true, true, true, true, false, false, false, false, false] rfl rfl (any_of HT_.out (by kernel_rfl)) (fun _ _ _ h => h) (Or.inr ⟨by rfl, rfl⟩) ?_ ?_
                              rotate_left
                              · simp only [Act.put, List.setIfInBounds_toArray, List.set_cons_zero, List.set_cons_succ, i64_w, i32_w]
                                rfl
                              refine pure_ (i := 18) (N := some 72) (v := undef) (a' := ?_) #[true, true, true, true, true, true, true, true, true, true, true, true, true, true, true, true, true, true, true, false, false, false, false] rfl rfl (any_of HT_.out (by kernel_rfl)) (fun _ _ _ h => h) (Or.inr ⟨by rfl, rfl⟩) ?_ ?_
                              rotate_left
                              · simp only [Act.put, List.setIfInBounds_toArray, List.set_cons_zero, List.set_cons_succ, i64_w, i32_w]
                                rfl
                              refine pure_ (i := 19) (N := some 73) (v := undef) (a' := ?_) #[true, true, true, true, true, true, true, true, true, true, true, true, true, true, true, true, true, true, true, true, false, false, false] rfl rfl (any_of HT_.out (by kernel_rfl)) (fun _ _ _ h => h) (Or.inr ⟨by rfl, rfl⟩) ?_ ?_
                              rotate_left
                              · simp only [Act.put, List.setIfInBounds_toArray, List.set_cons_zero, List.set_cons_succ, i64_w, i32_w]
                                rfl
                              refine pure_ (i := 20) (N := some 74) (v := undef) (a' := ?_) #[true, true, true, true, true, true, true, true, true, true, true, true, true, true, true, true, true, true, true, true, true, false, false] rfl rfl (any_of HT_.out (by kernel_rfl)) (fun _ _ _ h => h) (Or.inr ⟨by rfl, rfl⟩) ?_ ?_
                              rotate_left
                              · simp only [Act.put, List.setIfInBounds_toArray, List.set_cons_zero, List.set_cons_succ, i64_w, i32_w]
                                rfl
                              refine pure_ (i := 21) (N := some 75) (v := undef) (a' := ?_) #[true, true, true, true, true, true, true, true, true, true, true, true, true, true, true, true, true, true, true, true, true, true, false] rfl rfl (any_of HT_.out (by kernel_rfl)) (fun _ _ _ h => h) (Or.inr ⟨by rfl, rfl⟩) ?_ ?_
                              rotate_left
                              · simp only [Act.put, List.setIfInBounds_toArray, List.set_cons_zero, List.set_cons_succ, i64_w, i32_w]
                                rfl
                              refine pure_ (i := 22) (N := some 76) (v := ?_) (a' := ?_) #[true, true, true, true, true, true, true, true, true, true, true, true, true, true, true, true, true, true, true, true, true, true, true] rfl rfl (any_of HT_.out (by kernel_rfl)) (fun _ _ _ h => h) (Or.inl ⟨by rfl, ?_⟩) ?_ ?_
                              rotate_left
                              · intro w'
                                go_simp
                                with_reducible rfl
                              rotate_left
                              · simp only [Act.put, List.setIfInBounds_toArray, List.set_cons_zero, List.set_cons_succ, i64_w, i32_w]
                                rfl
                              refine done_ (done_of HT_.out (by kernel_rfl)) ?_
                              try go_wp2
                              go_meet
                              case rel => exact ⟨_, (true), (by first | rfl | (simp; done) | (simp [*]; done)), H', ⟨by have := HJ6.out; have := HK2.out; first | omega | exact Nat.le_refl _⟩, ⟨by (with_reducible repeat (first | refine blk_drewN ?_ _ | refine blk_drew ?_ | refine blk_alloc ?_ _)); exact BK153.out⟩, ⟨by (with_reducible repeat (first | refine blk_drewN ?_ _ | refine blk_drew ?_ | refine blk_alloc ?_ _)); exact BK154.out⟩, ⟨by repeat (first | (with_reducible first | exact HB.out | apply below_alloc | apply pw_below_drewN | apply below_drew1 | refine below_set ?_ GE153.out | refine below_set ?_ GE154.out) | exact HB.out)⟩⟩
                            · rw [if_neg c35] at H
                              have c35b0 : (((rd_T25 l0 x11_2).f0) == x154000_2) = false := beq_eq_false_iff_ne.mpr c35
                              have c35b1 : (((rd_T25 l0 x11_2).f0) != x154000_2) = true := bne_iff_ne.mpr c35
                              replace H := Option.bind_eq_some_iff.mp H
                              obtain ⟨t163, A380, H⟩ := H
                              replace H : (paternosterlaw10_FeedGoes.j2 k2 l0 x11_2 (t163 != x154000_2) t158 t159 t160 x154000_2 x154001_2 x154002_2) = some r := H
                              have A38 := Aside0.mk A380
                              clear A380
                              have H' := Aside0.mk H
                              clear H
                              try go_wp2
                              have n0_ : Aside0 ((((w25.setCell ⟨gb153, 0, none⟩ (.int .i64 t158)).setCell ⟨gb153, 1, none⟩ (.int .i64 t159)).setCell ⟨gb153, 2, none⟩ (.int .i64 t160)).heap[gb153]? = some (.cells #[.int .i64 t158, .int .i64 t159, .int .i64 t160] 23 (0, 0))) := ⟨by (with_reducible repeat (first | refine blk_drewN ?_ _ | refine blk_drew ?_ | refine blk_alloc ?_ _)); refine blk_put (cs := #[.int .i64 t158, .int .i64 t159, .int .i64 x154002_2]) ?_ 2 _ rfl; (with_reducible repeat (first | refine blk_drewN ?_ _ | refine blk_drew ?_ | refine blk_alloc ?_ _)); refine blk_put (cs := #[.int .i64 t158, .int .i64 x154001_2, .int .i64 x154002_2]) ?_ 1 _ rfl; (with_reducible repeat (first | refine blk_drewN ?_ _ | refine blk_drew ?_ | refine blk_alloc ?_ _)); refine blk_put (cs := #[.int .i64 x154000_2, .int .i64 x154001_2, .int .i64 x154002_2]) ?_ 0 _ rfl; (with_reducible repeat (first | refine blk_drewN ?_ _ | refine blk_drew ?_ | refine blk_alloc ?_ _)); exact BK153.out⟩
                              have n1_ : Aside0 ((((w25.setCell ⟨gb153, 0, none⟩ (.int .i64 t158)).setCell ⟨gb153, 1, none⟩ (.int .i64 t159)).setCell ⟨gb153, 2, none⟩ (.int .i64 t160)).heap[gb154]? = some (.cells #[.int .i64 x154000_2, .int .i64 x154001_2, .int .i64 x154002_2] 23 (0, 0))) := ⟨by (with_reducible repeat (first | refine blk_drewN ?_ _ | refine blk_drew ?_ | refine blk_alloc ?_ _)); refine blk_far ?_ NB154_153.out _; (with_reducible repeat (first | refine blk_drewN ?_ _ | refine blk_drew ?_ | refine blk_alloc ?_ _)); refine blk_far ?_ NB154_153.out _; (with_reducible repeat (first | refine blk_drewN ?_ _ | refine blk_drew ?_ | refine blk_alloc ?_ _)); refine blk_far ?_ NB154_153.out _; (with_reducible repeat (first | refine blk_drewN ?_ _ | refine blk_drew ?_ | refine blk_alloc ?_ _)); exact BK154.out⟩
                              have n2_ : Aside0 (Below w.heap.size w (((w25.setCell ⟨gb153, 0, none⟩ (.int .i64 t158)).setCell ⟨gb153, 1, none⟩ (.int .i64 t159)).setCell ⟨gb153, 2, none⟩ (.int .i64 t160))) := ⟨by repeat (first | (with_reducible first | exact HB.out | apply below_alloc | apply pw_below_drewN | apply below_drew1 | refine below_set ?_ GE153.out | refine below_set ?_ GE154.out) | exact HB.out)⟩
                              (try clear BK153)
                              (try clear BK154)
                              (try clear HB)
                              generalize (((w25.setCell ⟨gb153, 0, none⟩ (.int .i64 t158)).setCell ⟨gb153, 1, none⟩ (.int .i64 t159)).setCell ⟨gb153, 2, none⟩ (.int .i64 t160)) = w39 at n0_ n1_ n2_ ⊢
                              have BK153 := n0_
                              have BK154 := n1_
                              have HB := n2_
                              clear n0_ n1_ n2_
                              have n0_ := Aside0.mk (blk_drew BK153.out)
                              have n1_ := Aside0.mk (blk_drew BK154.out)
                              have n2_ := Aside0.mk (below_drew1 HB.out)
                              clear BK153
                              clear BK154
                              clear HB
                              have BK153 := n0_
                              have BK154 := n1_
                              have HB := n2_
                              clear n0_ n1_ n2_
                              have p161 : 0 ≤ (x11_2 : Int) := of_decide_eq_true (by first | (with_reducible assumption) | assumption)
                              have q161 : x11_2 < (l0.length : Int) := of_decide_eq_true (by first | (with_reducible assumption) | assumption)
                              obtain ⟨ad161, e161, hx161_0, hx161_1, hx161_2⟩ := at_T25 HR0.out x11_2 p161 q161
                              have hw161_2 := hx161_2
                              have hw161_1 := hx161_1
                              have hw161_0 := hx161_0
                              (try rw [← Nbq33.out] at hx161_1)
                              (try rw [← Nbq33.out] at hw161_1)
                              obtain rfl : ad155 = ad161 := (by injection e161)
                              replace hx161_0 := (HB.out.cell (World.block_lt_of_cell? w _ hx161_0)).trans hx161_0
                              replace hx161_1 := (HB.out.cell (World.block_lt_of_cell? w _ hx161_1)).trans hx161_1
                              replace hx161_2 := (HB.out.cell (World.block_lt_of_cell? w _ hx161_2)).trans hx161_2
                              replace p161 := eq_true p161
                              replace q161 := eq_true q161
                              have p162 : 0 ≤ (x11_2 : Int) := of_decide_eq_true (by first | (with_reducible assumption) | assumption)
                              have q162 : x11_2 < (l0.length : Int) := of_decide_eq_true (by first | (with_reducible assumption) | assumption)
                              obtain ⟨ad162, e162, hx162_0, hx162_1, hx162_2⟩ := at_T25 HR0.out x11_2 p162 q162
                              have hw162_2 := hx162_2
                              have hw162_1 := hx162_1
                              have hw162_0 := hx162_0
                              (try rw [← Nbq33.out] at hx162_1)
                              (try rw [← Nbq33.out] at hw162_1)
                              obtain rfl : ad155 = ad162 := (by injection e162)
                              replace hx162_0 := (HB.out.cell (World.block_lt_of_cell? w _ hx162_0)).trans hx162_0
                              replace hx162_1 := (HB.out.cell (World.block_lt_of_cell? w _ hx162_1)).trans hx162_1
                              replace hx162_2 := (HB.out.cell (World.block_lt_of_cell? w _ hx162_2)).trans hx162_2
                              replace p162 := eq_true p162
                              replace q162 := eq_true q162
                              refine start_ (n := 23) (S := fun w' => w'.cell? ⟨gb154, 0, none⟩ = some (.int .i64 x154000_2) ∧ w'.cell? ⟨gb154, 1, none⟩ = some (.int .i64 x154001_2) ∧ w'.cell? ⟨gb154, 2, none⟩ = some (.int .i64 x154002_2) ∧ w'.cell? (ad155.add ((x11_2).toNat * 3)) = some (.int .i64 ((rd_T25 l0 x11_2).f0)) ∧ w'.cell? ⟨(ad155.add ((x11_2).toNat * 3)).block, (ad155.add ((x11_2).toNat * 3)).off + 1, none⟩ = some (.bool true) ∧ w'.cell? ⟨(ad155.add ((x11_2).toNat * 3)).block, (ad155.add ((x11_2).toNat * 3)).off + 2, none⟩ = some (.int .i64 ((rd_T25 l0 x11_2).f2)) ∧ w'.cell? (ad155.add ((x11_2).toNat * 3)) = some (.int .i64 ((rd_T25 l0 x11_2).f0)) ∧ w'.cell? ⟨(ad155.add ((x11_2).toNat * 3)).block, (ad155.add ((x11_2).toNat * 3)).off + 1, none⟩ = some (.bool (true)) ∧ w'.cell? ⟨(ad155.add ((x11_2).toNat * 3)).block, (ad155.add ((x11_2).toNat * 3)).off + 2, none⟩ = some (.int .i64 ((rd_T25 l0 x11_2).f2))) (ds := []) #[false, false, false, false, false, false, false, false, false, false, false, false, false, false, false, false, false, false, false, false, false, false, false] (by kernel_rfl) rfl rfl ⟨(blk_cell BK154.out 0).trans rfl, (blk_cell BK154.out 1).trans rfl, (blk_cell BK154.out 2).trans rfl, ((HB.out.cell (World.block_lt_of_cell? w _ hw161_0)).trans hw161_0), ((HB.out.cell (World.block_lt_of_cell? w _ hw161_1)).trans hw161_1), ((HB.out.cell (World.block_lt_of_cell? w _ hw161_2)).trans hw161_2), ((HB.out.cell (World.block_lt_of_cell? w _ hw162_0)).trans hw162_0), ((HB.out.cell (World.block_lt_of_cell? w _ hw162_1)).trans hw162_1), ((HB.out.cell (World.block_lt_of_cell? w _ hw162_2)).trans hw162_2)⟩ (fun hHeld => ?_); refine with_tabW paternosterlaw10_FeedGoes.tab20 paternosterlaw10_FeedGoes.bits20 (fun HT_ HW_ => ?_)
                              generalize w39.drew = w40 at BK153 BK154 HB hx161_0 hx161_1 hx161_2 hx162_0 hx162_1 hx162_2 hHeld ⊢
                              refine pure_ (i := 0) (N := some 54) (v := ?_) (a' := ?_) #[true, false, false, false, false, false, false, false, false, false, false, false, false, false, false, false, false, false, false, false, false, false, false] rfl rfl (any_of HT_.out (by kernel_rfl)) (fun _ _ _ h => h) (Or.inl ⟨by rfl, ?_⟩) ?_ ?_
                              rotate_left
                              · intro w'
                                go_simp
                                with_reducible rfl
                              rotate_left
                              · simp only [Act.put, List.setIfInBounds_toArray, List.set_cons_zero, List.set_cons_succ, i64_w, i32_w]
                                rfl
                              refine pure_ (i := 1) (N := some 55) (v := ?_) (a' := ?_) #[true, true, false, false, false, false, false, false, false, false, false, false, false, false, false, false, false, false, false, false, false, false, false] rfl rfl (any_of HT_.out (by kernel_rfl)) (fun _ _ _ h => h) (Or.inl ⟨by rfl, ?_⟩) ?_ ?_
                              rotate_left
                              · intro w'
                                go_simp
                                with_reducible rfl
                              rotate_left
                              · simp only [Act.put, List.setIfInBounds_toArray, List.set_cons_zero, List.set_cons_succ, i64_w, i32_w]
                                rfl
                              refine pure_ (i := 2) (N := some 56) (v := ?_) (a' := ?_) #[true, true, true, false, false, false, false, false, false, false, false, false, false, false, false, false, false, false, false, false, false, false, false] rfl rfl (any_of HT_.out (by kernel_rfl)) (fun _ _ _ h => h) (Or.inl ⟨by rfl, ?_⟩) ?_ ?_
                              rotate_left
                              · intro w'
                                go_simp
                                with_reducible rfl
                              rotate_left
                              · simp only [Act.put, List.setIfInBounds_toArray, List.set_cons_zero, List.set_cons_succ, i64_w, i32_w]
                                rfl
                              refine pure_ (i := 3) (N := some 57) (v := ?_) (a' := ?_) #[true, true, true, true, false, false, false, false, false, false, false, false, false, false, false, false, false, false, false, false, false, false, false] rfl rfl (any_of HT_.out (by kernel_rfl)) (fun _ _ _ h => h) (Or.inl ⟨by rfl, ?_⟩) ?_ ?_
                              rotate_left
                              · intro w'
                                go_simp
                                with_reducible rfl
                              rotate_left
                              · simp only [Act.put, List.setIfInBounds_toArray, List.set_cons_zero, List.set_cons_succ, i64_w, i32_w]
                                rfl
                              refine take_ (i := 4) (N := some 58) (v := ?_) (a' := ?_) #[true, true, true, true, true, false, false, false, false, false, false, false, false, false, false, false, false, false, false, false, false, false, false] rfl rfl (take_ofW HT_.out HW_.out (by kernel_rfl)) (fun _ _ _ h => h) (Or.inl ⟨by rfl, ?_⟩) hHeld ?_ ?_
                              rotate_left
                              · rintro w' ⟨s0, s1, s2, s3, s4, s5, s6, s7, s8⟩
                                go_simp
                                with_reducible rfl
                              rotate_left
                              · simp only [Act.put, List.setIfInBounds_toArray, List.set_cons_zero, List.set_cons_succ, i64_w, i32_w]
                                rfl
                              refine pure_ (i := 5) (N := some 59) (v := ?_) (a' := ?_) #[true, true, true, true, true, true, false, false, false, false, false, false, false, false, false, false, false, false, false, false, false, false, false] rfl rfl (any_of HT_.out (by kernel_rfl)) (fun _ _ _ h => h) (Or.inl ⟨by rfl, ?_⟩) ?_ ?_
                              rotate_left
                              · intro w'
                                go_simp
                                with_reducible rfl
                              rotate_left
                              · simp only [Act.put, List.setIfInBounds_toArray, List.set_cons_zero, List.set_cons_succ, i64_w, i32_w]
                                rfl
                              refine pure_ (i := 6) (N := some 60) (v := ?_) (a' := ?_) #[true, true, true, true, true, true, true, false, false, false, false, false, false, false, false, false, false, false, false, false, false, false, false] rfl rfl (any_of HT_.out (by kernel_rfl)) (fun _ _ _ h => h) (Or.inl ⟨by rfl, ?_⟩) ?_ ?_
                              rotate_left
                              · intro w'
                                go_simp
                                with_reducible rfl
                              rotate_left
                              · simp only [Act.put, List.setIfInBounds_toArray, List.set_cons_zero, List.set_cons_succ, i64_w, i32_w]
                                rfl
                              refine pure_ (i := 7) (N := some 61) (v := ?_) (a' := ?_) #[true, true, true, true, true, true, true, true, false, false, false, false, false, false, false, false, false, false, false, false, false, false, false] rfl rfl (any_of HT_.out (by kernel_rfl)) (fun _ _ _ h => h) (Or.inl ⟨by rfl, ?_⟩) ?_ ?_
                              rotate_left
                              · intro w'
                                go_simp
                                with_reducible rfl
                              rotate_left
                              · simp only [Act.put, List.setIfInBounds_toArray, List.set_cons_zero, List.set_cons_succ, i64_w, i32_w]
                                rfl
                              refine pure_ (i := 8) (N := some 62) (v := ?_) (a' := ?_) #[true, true, true, true, true, true, true, true, true, false, false, false, false, false, false, false, false, false, false, false, false, false, false] rfl rfl (any_of HT_.out (by kernel_rfl)) (fun _ _ _ h => h) (Or.inl ⟨by rfl, ?_⟩) ?_ ?_
                              rotate_left
                              · intro w'
                                go_simp
                                with_reducible rfl
                              rotate_left
                              · simp only [Act.put, List.setIfInBounds_toArray, List.set_cons_zero, List.set_cons_succ, i64_w, i32_w]
                                rfl
                              refine pure_ (i := 9) (N := some 63) (v := ?_) (a' := ?_) #[true, true, true, true, true, true, true, true, true, true, false, false, false, false, false, false, false, false, false, false, false, false, false] rfl rfl (any_of HT_.out (by kernel_rfl)) (fun _ _ _ h => h) (Or.inl ⟨by rfl, ?_⟩) ?_ ?_
                              rotate_left
                              · intro w'
                                go_simp
                                with_reducible rfl
                              rotate_left
                              · simp only [Act.put, List.setIfInBounds_toArray, List.set_cons_zero, List.set_cons_succ, i64_w, i32_w]
                                rfl
                              refine pure_ (i := 10) (N := some 64) (v := ?_) (a' := ?_) #[true, true, true, true, true, true, true, true, true, true, true, false, false, false, false, false, false, false, false, false, false, false, false] rfl rfl (any_of HT_.out (by kernel_rfl)) (fun _ _ _ h => h) (Or.inl ⟨by rfl, ?_⟩) ?_ ?_
                              rotate_left
                              · intro w'
                                go_simp
                                with_reducible rfl
                              rotate_left
                              · simp only [Act.put, List.setIfInBounds_toArray, List.set_cons_zero, List.set_cons_succ, i64_w, i32_w]
                                rfl
                              refine pure_ (i := 12) (N := some 66) (v := ?_) (a' := ?_) #[true, true, true, true, true, true, true, true, true, true, true, false, true, false, false, false, false, false, false, false, false, false, false] rfl rfl (any_of HT_.out (by kernel_rfl)) (fun _ _ _ h => h) (Or.inl ⟨by rfl, ?_⟩) ?_ ?_
                              rotate_left
                              · intro w'
                                go_simp
                                with_reducible rfl
                              rotate_left
                              · simp only [Act.put, List.setIfInBounds_toArray, List.set_cons_zero, List.set_cons_succ, i64_w, i32_w]
                                rfl
                              refine take_ (i := 11) (N := some 65) (v := ?_) (a' := ?_) #[true, true, true, true, true, true, true, true, true, true, true, true, true, false, false, false, false, false, false, false, false, false, false] rfl rfl (take_ofW HT_.out HW_.out (by kernel_rfl)) (fun _ _ _ h => h) (Or.inl ⟨by rfl, ?_⟩) hHeld ?_ ?_
                              rotate_left
                              · rintro w' ⟨s0, s1, s2, s3, s4, s5, s6, s7, s8⟩
                                go_simp
                                with_reducible rfl
                              rotate_left
                              · simp only [Act.put, List.setIfInBounds_toArray, List.set_cons_zero, List.set_cons_succ, i64_w, i32_w]
                                rfl
                              refine take_ (i := 13) (N := some 67) (v := ?_) (a' := ?_) #[true, true, true, true, true, true, true, true, true, true, true, true, true, true, false, false, false, false, false, false, false, false, false] rfl rfl (take_ofW HT_.out HW_.out (by kernel_rfl)) (fun _ _ _ h => h) (Or.inl ⟨by rfl, ?_⟩) hHeld ?_ ?_
                              rotate_left
                              · rintro w' ⟨s0, s1, s2, s3, s4, s5, s6, s7, s8⟩
                                go_simp
                                with_reducible rfl
                              rotate_left
                              · simp only [Act.put, List.setIfInBounds_toArray, List.set_cons_zero, List.set_cons_succ, i64_w, i32_w]
                                rfl
                              refine pure_ (i := 14) (N := some 68) (v := ?_) (a' := ?_) #[true, true, true, true, true, true, true, true, true, true, true, true, true, true, true, false, false, false, false, false, false, false, false] rfl rfl (any_of HT_.out (by kernel_rfl)) (fun _ _ _ h => h) (Or.inl ⟨by rfl, ?_⟩) ?_ ?_
                              rotate_left
                              · intro w'
                                go_simp
                                with_reducible rfl
                              rotate_left
                              · simp only [Act.put, List.setIfInBounds_toArray, List.set_cons_zero, List.set_cons_succ, i64_w, i32_w]
                                rfl
                              refine pure_ (i := 15) (N := some 69) (v := ?_) (a' := ?_) #[true, true, true, true, true, true, true, true, true, true, true, true, true, true, true, true, false, false, false, false, false, false, false] rfl rfl (any_of HT_.out (by kernel_rfl)) (fun _ _ _ h => h) (Or.inl ⟨by rfl, ?_⟩) ?_ ?_
                              rotate_left
                              · intro w'
                                go_simp
                                with_reducible rfl
                              rotate_left
                              · simp only [Act.put, List.setIfInBounds_toArray, List.set_cons_zero, List.set_cons_succ, i64_w, i32_w]
                                rfl
                              refine pure_ (i := 16) (N := some 70) (v := ?_) (a' := ?_) #[true, true, true, true, true, true, true, true, true, true, true, true, true, true, true, true, true, false, false, false, false, false, false] rfl rfl (any_of HT_.out (by kernel_rfl)) (fun _ _ _ h => h) (Or.inl ⟨by rfl, ?_⟩) ?_ ?_
                              rotate_left
                              · intro w'
                                go_simp
                                with_reducible rfl
                              rotate_left
                              · simp only [Act.put, List.setIfInBounds_toArray, List.set_cons_zero, List.set_cons_succ, i64_w, i32_w]
                                rfl
                              refine pure_ (i := 19) (N := some 73) (v := ?_) (a' := ?_) #[true, true, true, true, true, true, true, true, true, true, true, true, true, true, true, true, true, false, false, true, false, false, false] rfl rfl (any_of HT_.out (by kernel_rfl)) (fun _ _ _ h => h) (Or.inl ⟨by rfl, ?_⟩) ?_ ?_
                              rotate_left
                              · intro w'
                                go_simp
                                with_reducible rfl
                              rotate_left
                              · simp only [Act.put, List.setIfInBounds_toArray, List.set_cons_zero, List.set_cons_succ, i64_w, i32_w]
                                rfl
                              refine take_ (i := 17) (N := some 71) (v := ?_) (a' := ?_) #[true, true, true, true, true, true, true, true, true, true, true, true, true, true, true, true, true, true, false, true, false, false, false] rfl rfl (take_ofW HT_.out HW_.out (by kernel_rfl)) (fun _ _ _ h => h) (Or.inl ⟨by rfl, ?_⟩) hHeld ?_ ?_
                              rotate_left
                              · rintro w' ⟨s0, s1, s2, s3, s4, s5, s6, s7, s8⟩
                                go_simp
                                with_reducible rfl
                              rotate_left
                              · simp only [Act.put, List.setIfInBounds_toArray, List.set_cons_zero, List.set_cons_succ, i64_w, i32_w]
                                rfl
                              refine take_ (i := 20) (N := some 74) (v := ?_) (a' := ?_) #[true, true, true, true, true, true, true, true, true, true, true, true, true, true, true, true, true, true, false, true, true, false, false] rfl rfl (take_ofW HT_.out HW_.out (by kernel_rfl)) (fun _ _ _ h => h) (Or.inl ⟨by rfl, ?_⟩) hHeld ?_ ?_
                              rotate_left
                              · rintro w' ⟨s0, s1, s2, s3, s4, s5, s6, s7, s8⟩
                                go_simp
                                with_reducible rfl
                              rotate_left
                              · simp only [Act.put, List.setIfInBounds_toArray, List.set_cons_zero, List.set_cons_succ, i64_w, i32_w]
                                rfl
                              refine one_ (i := 18) (N := some 72) #[true, true, true, true, true, true, true, true, true, true, true, true, true, true, true, true, true, true, true, true, true, false, false] rfl rfl (one_of HT_.out (by kernel_rfl)) (by decide) (fun K hK => ?_)
                              refine goes_ Try.func13 (by kernel_rfl) rfl #[.agg #[.int .i64 x154000_2, .int .i64 x154001_2, .int .i64 x154002_2], .bool true, .bool true] (by rfl) rfl rfl (by (try simp only [List.map_toArray, List.map_cons, List.map_nil]); first | done | rfl | (simp only [List.length_drop, List.length_take]; rfl)) ?_
                              with_reducible refine (feed_Feed_Power.calls k2 x154000_2 x154001_2 x154002_2 true true t163 _ A38.out).mono ?_
                              rintro e w41 ⟨rfl, hb⟩
                              refine ⟨_, rfl, ?_⟩
                              have n0_ := Aside0.mk (blk_below (g := gb153) (o := .cells #[.int .i64 t158, .int .i64 t159, .int .i64 t160] 23 (0, 0)) (by (with_reducible repeat (first | refine blk_drewN ?_ _ | refine blk_drew ?_ | refine blk_alloc ?_ _)); exact BK153.out) hb)
                              have n1_ := Aside0.mk (blk_below (g := gb154) (o := .cells #[.int .i64 x154000_2, .int .i64 x154001_2, .int .i64 x154002_2] 23 (0, 0)) (by (with_reducible repeat (first | refine blk_drewN ?_ _ | refine blk_drew ?_ | refine blk_alloc ?_ _)); exact BK154.out) hb)
                              have n2_ := Aside0.mk (below_step (by repeat (first | (with_reducible first | exact HB.out | apply below_alloc | apply pw_below_drewN | apply below_drew1 | refine below_set ?_ GE153.out | refine below_set ?_ GE154.out) | exact HB.out)) hb)
                              clear BK153
                              clear BK154
                              clear HB
                              have BK153 := n0_
                              have BK154 := n1_
                              have HB := n2_
                              clear n0_ n1_ n2_
                              (try clear hb)
                              (try clear hb2)
                              (try clear hk)
                              (try clear hi)
                              refine hK.out _ _ ⟨(blk_cell BK154.out 0).trans rfl, (blk_cell BK154.out 1).trans rfl, (blk_cell BK154.out 2).trans rfl, ((HB.out.cell (World.block_lt_of_cell? w _ hw161_0)).trans hw161_0), ((HB.out.cell (World.block_lt_of_cell? w _ hw161_1)).trans hw161_1), ((HB.out.cell (World.block_lt_of_cell? w _ hw161_2)).trans hw161_2), ((HB.out.cell (World.block_lt_of_cell? w _ hw162_0)).trans hw162_0), ((HB.out.cell (World.block_lt_of_cell? w _ hw162_1)).trans hw162_1), ((HB.out.cell (World.block_lt_of_cell? w _ hw162_2)).trans hw162_2)⟩ (fun hHeld => ?_)
                              clear hK K
                              refine norm_ (a' := ?_) ?_ ?_
                              rotate_left
                              · show Act.put _ (some 72) _ = _
                                simp only [Act.put, List.setIfInBounds_toArray, List.set_cons_zero, List.set_cons_succ, i64_w, i32_w]
                                rfl
                              refine pure_ (i := 21) (N := some 75) (v := ?_) (a' := ?_) #[true, true, true, true, true, true, true, true, true, true, true, true, true, true, true, true, true, true, true, true, true, true, false] rfl rfl (any_of HT_.out (by kernel_rfl)) (fun _ _ _ h => h) (Or.inl ⟨by rfl, ?_⟩) ?_ ?_
                              rotate_left
                              · intro w'
                                go_simp
                                with_reducible rfl
                              rotate_left
                              · simp only [Act.put, List.setIfInBounds_toArray, List.set_cons_zero, List.set_cons_succ, i64_w, i32_w]
                                rfl
                              refine pure_ (i := 22) (N := some 76) (v := ?_) (a' := ?_) #[true, true, true, true, true, true, true, true, true, true, true, true, true, true, true, true, true, true, true, true, true, true, true] rfl rfl (any_of HT_.out (by kernel_rfl)) (fun _ _ _ h => h) (Or.inl ⟨by rfl, ?_⟩) ?_ ?_
                              rotate_left
                              · intro w'
                                go_simp
                                with_reducible rfl
                              rotate_left
                              · simp only [Act.put, List.setIfInBounds_toArray, List.set_cons_zero, List.set_cons_succ, i64_w, i32_w]
                                rfl
                              refine done_ (done_of HT_.out (by kernel_rfl)) ?_
                              try go_wp2
                              go_meet
                              case rel => exact ⟨_, ((t163 != x154000_2)), (by first | rfl | (simp; done) | (simp [*]; done)), H', ⟨by have := HJ6.out; have := HK2.out; first | omega | exact Nat.le_refl _⟩, ⟨by (with_reducible repeat (first | refine blk_drewN ?_ _ | refine blk_drew ?_ | refine blk_alloc ?_ _)); exact BK153.out⟩, ⟨by (with_reducible repeat (first | refine blk_drewN ?_ _ | refine blk_drew ?_ | refine blk_alloc ?_ _)); exact BK154.out⟩, ⟨by repeat (first | (with_reducible first | exact HB.out | apply below_alloc | apply pw_below_drewN | apply below_drew1 | refine below_set ?_ GE153.out | refine below_set ?_ GE154.out) | exact HB.out)⟩⟩
                          · replace c34 := Bool.eq_false_iff.mpr c34
                            subst c34
                            have H1 : (paternosterlaw10_FeedGoes.j2 k2 l0 x11_2 true t158 t159 t160 x154000_2 x154001_2 x154002_2) = some r := by rw [if_neg (show ¬ (false = true) by decide)] at H; exact H
                            clear H
                            have H := H1
                            clear H1
                            have H' := Aside0.mk H
                            clear H
                            try go_wp2
                            have n0_ : Aside0 ((((w25.setCell ⟨gb153, 0, none⟩ (.int .i64 t158)).setCell ⟨gb153, 1, none⟩ (.int .i64 t159)).setCell ⟨gb153, 2, none⟩ (.int .i64 t160)).heap[gb153]? = some (.cells #[.int .i64 t158, .int .i64 t159, .int .i64 t160] 23 (0, 0))) := ⟨by (with_reducible repeat (first | refine blk_drewN ?_ _ | refine blk_drew ?_ | refine blk_alloc ?_ _)); refine blk_put (cs := #[.int .i64 t158, .int .i64 t159, .int .i64 x154002_2]) ?_ 2 _ rfl; (with_reducible repeat (first | refine blk_drewN ?_ _ | refine blk_drew ?_ | refine blk_alloc ?_ _)); refine blk_put (cs := #[.int .i64 t158, .int .i64 x154001_2, .int .i64 x154002_2]) ?_ 1 _ rfl; (with_reducible repeat (first | refine blk_drewN ?_ _ | refine blk_drew ?_ | refine blk_alloc ?_ _)); refine blk_put (cs := #[.int .i64 x154000_2, .int .i64 x154001_2, .int .i64 x154002_2]) ?_ 0 _ rfl; (with_reducible repeat (first | refine blk_drewN ?_ _ | refine blk_drew ?_ | refine blk_alloc ?_ _)); exact BK153.out⟩
                            have n1_ : Aside0 ((((w25.setCell ⟨gb153, 0, none⟩ (.int .i64 t158)).setCell ⟨gb153, 1, none⟩ (.int .i64 t159)).setCell ⟨gb153, 2, none⟩ (.int .i64 t160)).heap[gb154]? = some (.cells #[.int .i64 x154000_2, .int .i64 x154001_2, .int .i64 x154002_2] 23 (0, 0))) := ⟨by (with_reducible repeat (first | refine blk_drewN ?_ _ | refine blk_drew ?_ | refine blk_alloc ?_ _)); refine blk_far ?_ NB154_153.out _; (with_reducible repeat (first | refine blk_drewN ?_ _ | refine blk_drew ?_ | refine blk_alloc ?_ _)); refine blk_far ?_ NB154_153.out _; (with_reducible repeat (first | refine blk_drewN ?_ _ | refine blk_drew ?_ | refine blk_alloc ?_ _)); refine blk_far ?_ NB154_153.out _; (with_reducible repeat (first | refine blk_drewN ?_ _ | refine blk_drew ?_ | refine blk_alloc ?_ _)); exact BK154.out⟩
                            have n2_ : Aside0 (Below w.heap.size w (((w25.setCell ⟨gb153, 0, none⟩ (.int .i64 t158)).setCell ⟨gb153, 1, none⟩ (.int .i64 t159)).setCell ⟨gb153, 2, none⟩ (.int .i64 t160))) := ⟨by repeat (first | (with_reducible first | exact HB.out | apply below_alloc | apply pw_below_drewN | apply below_drew1 | refine below_set ?_ GE153.out | refine below_set ?_ GE154.out) | exact HB.out)⟩
                            (try clear BK153)
                            (try clear BK154)
                            (try clear HB)
                            generalize (((w25.setCell ⟨gb153, 0, none⟩ (.int .i64 t158)).setCell ⟨gb153, 1, none⟩ (.int .i64 t159)).setCell ⟨gb153, 2, none⟩ (.int .i64 t160)) = w42 at n0_ n1_ n2_ ⊢
                            have BK153 := n0_
                            have BK154 := n1_
                            have HB := n2_
                            clear n0_ n1_ n2_
                            have n0_ := Aside0.mk (blk_drew BK153.out)
                            have n1_ := Aside0.mk (blk_drew BK154.out)
                            have n2_ := Aside0.mk (below_drew1 HB.out)
                            clear BK153
                            clear BK154
                            clear HB
                            have BK153 := n0_
                            have BK154 := n1_
                            have HB := n2_
                            clear n0_ n1_ n2_
                            have p161 : 0 ≤ (x11_2 : Int) := of_decide_eq_true (by first | (with_reducible assumption) | assumption)
                            have q161 : x11_2 < (l0.length : Int) := of_decide_eq_true (by first | (with_reducible assumption) | assumption)
                            obtain ⟨ad161, e161, hx161_0, hx161_1, hx161_2⟩ := at_T25 HR0.out x11_2 p161 q161
                            have hw161_2 := hx161_2
                            have hw161_1 := hx161_1
                            have hw161_0 := hx161_0
                            (try rw [← Nbq33.out] at hx161_1)
                            (try rw [← Nbq33.out] at hw161_1)
                            obtain rfl : ad155 = ad161 := (by injection e161)
                            replace hx161_0 := (HB.out.cell (World.block_lt_of_cell? w _ hx161_0)).trans hx161_0
                            replace hx161_1 := (HB.out.cell (World.block_lt_of_cell? w _ hx161_1)).trans hx161_1
                            replace hx161_2 := (HB.out.cell (World.block_lt_of_cell? w _ hx161_2)).trans hx161_2
                            replace p161 := eq_true p161
                            replace q161 := eq_true q161
                            refine start_ (n := 23) (S := fun w' => w'.cell? (ad155.add ((x11_2).toNat * 3)) = some (.int .i64 ((rd_T25 l0 x11_2).f0)) ∧ w'.cell? ⟨(ad155.add ((x11_2).toNat * 3)).block, (ad155.add ((x11_2).toNat * 3)).off + 1, none⟩ = some (.bool false) ∧ w'.cell? ⟨(ad155.add ((x11_2).toNat * 3)).block, (ad155.add ((x11_2).toNat * 3)).off + 2, none⟩ = some (.int .i64 ((rd_T25 l0 x11_2).f2))) (ds := []) #[false, false, false, false, false, false, false, false, false, false, false, false, false, false, false, false, false, false, false, false, false, false, false] (by kernel_rfl) rfl rfl ⟨((HB.out.cell (World.block_lt_of_cell? w _ hw161_0)).trans hw161_0), ((HB.out.cell (World.block_lt_of_cell? w _ hw161_1)).trans hw161_1), ((HB.out.cell (World.block_lt_of_cell? w _ hw161_2)).trans hw161_2)⟩ (fun hHeld => ?_); refine with_tabW paternosterlaw10_FeedGoes.tab20 paternosterlaw10_FeedGoes.bits20 (fun HT_ HW_ => ?_)
                            generalize w42.drew = w43 at BK153 BK154 HB hx161_0 hx161_1 hx161_2 hHeld ⊢
                            refine pure_ (i := 0) (N := some 54) (v := ?_) (a' := ?_) #[true, false, false, false, false, false, false, false, false, false, false, false, false, false, false, false, false, false, false, false, false, false, false] rfl rfl (any_of HT_.out (by kernel_rfl)) (fun _ _ _ h => h) (Or.inl ⟨by rfl, ?_⟩) ?_ ?_
                            rotate_left
                            · intro w'
                              go_simp
                              with_reducible rfl
                            rotate_left
                            · simp only [Act.put, List.setIfInBounds_toArray, List.set_cons_zero, List.set_cons_succ, i64_w, i32_w]
                              rfl
                            refine pure_ (i := 1) (N := some 55) (v := ?_) (a' := ?_) #[true, true, false, false, false, false, false, false, false, false, false, false, false, false, false, false, false, false, false, false, false, false, false] rfl rfl (any_of HT_.out (by kernel_rfl)) (fun _ _ _ h => h) (Or.inl ⟨by rfl, ?_⟩) ?_ ?_
                            rotate_left
                            · intro w'
                              go_simp
                              with_reducible rfl
                            rotate_left
                            · simp only [Act.put, List.setIfInBounds_toArray, List.set_cons_zero, List.set_cons_succ, i64_w, i32_w]
                              rfl
                            refine pure_ (i := 2) (N := some 56) (v := ?_) (a' := ?_) #[true, true, true, false, false, false, false, false, false, false, false, false, false, false, false, false, false, false, false, false, false, false, false] rfl rfl (any_of HT_.out (by kernel_rfl)) (fun _ _ _ h => h) (Or.inl ⟨by rfl, ?_⟩) ?_ ?_
                            rotate_left
                            · intro w'
                              go_simp
                              with_reducible rfl
                            rotate_left
                            · simp only [Act.put, List.setIfInBounds_toArray, List.set_cons_zero, List.set_cons_succ, i64_w, i32_w]
                              rfl
                            refine pure_ (i := 3) (N := some 57) (v := ?_) (a' := ?_) #[true, true, true, true, false, false, false, false, false, false, false, false, false, false, false, false, false, false, false, false, false, false, false] rfl rfl (any_of HT_.out (by kernel_rfl)) (fun _ _ _ h => h) (Or.inl ⟨by rfl, ?_⟩) ?_ ?_
                            rotate_left
                            · intro w'
                              go_simp
                              with_reducible rfl
                            rotate_left
                            · simp only [Act.put, List.setIfInBounds_toArray, List.set_cons_zero, List.set_cons_succ, i64_w, i32_w]
                              rfl
                            refine take_ (i := 4) (N := some 58) (v := ?_) (a' := ?_) #[true, true, true, true, true, false, false, false, false, false, false, false, false, false, false, false, false, false, false, false, false, false, false] rfl rfl (take_ofW HT_.out HW_.out (by kernel_rfl)) (fun _ _ _ h => h) (Or.inl ⟨by rfl, ?_⟩) hHeld ?_ ?_
                            rotate_left
                            · rintro w' ⟨s0, s1, s2⟩
                              go_simp
                              with_reducible rfl
                            rotate_left
                            · simp only [Act.put, List.setIfInBounds_toArray, List.set_cons_zero, List.set_cons_succ, i64_w, i32_w]
                              rfl
                            refine pure_ (i := 5) (N := some 59) (v := ?_) (a' := ?_) #[true, true, true, true, true, true, false, false, false, false, false, false, false, false, false, false, false, false, false, false, false, false, false] rfl rfl (any_of HT_.out (by kernel_rfl)) (fun _ _ _ h => h) (Or.inl ⟨by rfl, ?_⟩) ?_ ?_
                            rotate_left
                            · intro w'
                              go_simp
                              with_reducible rfl
                            rotate_left
                            · simp only [Act.put, List.setIfInBounds_toArray, List.set_cons_zero, List.set_cons_succ, i64_w, i32_w]
                              rfl
                            refine pure_ (i := 6) (N := some 60) (v := ?_) (a' := ?_) #[true, true, true, true, true, true, true, false, false, false, false, false, false, false, false, false, false, false, false, false, false, false, false] rfl rfl (any_of HT_.out (by kernel_rfl)) (fun _ _ _ h => h) (Or.inl ⟨by rfl, ?_⟩) ?_ ?_
                            rotate_left
                            · intro w'
                              go_simp
                              with_reducible rfl
                            rotate_left
                            · simp only [Act.put, List.setIfInBounds_toArray, List.set_cons_zero, List.set_cons_succ, i64_w, i32_w]
                              rfl
                            refine pure_ (i := 7) (N := some 61) (v := undef) (a' := ?_) #[true, true, true, true, true, true, true, true, false, false, false, false, false, false, false, false, false, false, false, false, false, false, false] rfl rfl (any_of HT_.out (by kernel_rfl)) (fun _ _ _ h => h) (Or.inr ⟨by rfl, rfl⟩) ?_ ?_
                            rotate_left
                            · simp only [Act.put, List.setIfInBounds_toArray, List.set_cons_zero, List.set_cons_succ, i64_w, i32_w]
                              rfl
                            refine pure_ (i := 8) (N := some 62) (v := undef) (a' := ?_) #[true, true, true, true, true, true, true, true, true, false, false, false, false, false, false, false, false, false, false, false, false, false, false] rfl rfl (any_of HT_.out (by kernel_rfl)) (fun _ _ _ h => h) (Or.inr ⟨by rfl, rfl⟩) ?_ ?_
                            rotate_left
                            · simp only [Act.put, List.setIfInBounds_toArray, List.set_cons_zero, List.set_cons_succ, i64_w, i32_w]
                              rfl
                            refine pure_ (i := 9) (N := some 63) (v := undef) (a' := ?_) #[true, true, true, true, true, true, true, true, true, true, false, false, false, false, false, false, false, false, false, false, false, false, false] rfl rfl (any_of HT_.out (by kernel_rfl)) (fun _ _ _ h => h) (Or.inr ⟨by rfl, rfl⟩) ?_ ?_
                            rotate_left
                            · simp only [Act.put, List.setIfInBounds_toArray, List.set_cons_zero, List.set_cons_succ, i64_w, i32_w]
                              rfl
                            refine pure_ (i := 10) (N := some 64) (v := undef) (a' := ?_) #[true, true, true, true, true, true, true, true, true, true, true, false, false, false, false, false, false, false, false, false, false, false, false] rfl rfl (any_of HT_.out (by kernel_rfl)) (fun _ _ _ h => h) (Or.inr ⟨by rfl, rfl⟩) ?_ ?_
                            rotate_left
                            · simp only [Act.put, List.setIfInBounds_toArray, List.set_cons_zero, List.set_cons_succ, i64_w, i32_w]
                              rfl
                            refine pure_ (i := 11) (N := some 65) (v := undef) (a' := ?_) #[true, true, true, true, true, true, true, true, true, true, true, true, false, false, false, false, false, false, false, false, false, false, false] rfl rfl (any_of HT_.out (by kernel_rfl)) (fun _ _ _ h => h) (Or.inr ⟨by rfl, rfl⟩) ?_ ?_
                            rotate_left
                            · simp only [Act.put, List.setIfInBounds_toArray, List.set_cons_zero, List.set_cons_succ, i64_w, i32_w]
                              rfl
                            refine pure_ (i := 12) (N := some 66) (v := undef) (a' := ?_) #[true, true, true, true, true, true, true, true, true, true, true, true, true, false, false, false, false, false, false, false, false, false, false] rfl rfl (any_of HT_.out (by kernel_rfl)) (fun _ _ _ h => h) (Or.inr ⟨by rfl, rfl⟩) ?_ ?_
                            rotate_left
                            · simp only [Act.put, List.setIfInBounds_toArray, List.set_cons_zero, List.set_cons_succ, i64_w, i32_w]
                              rfl
                            refine pure_ (i := 13) (N := some 67) (v := undef) (a' := ?_) #[true, true, true, true, true, true, true, true, true, true, true, true, true, true, false, false, false, false, false, false, false, false, false] rfl rfl (any_of HT_.out (by kernel_rfl)) (fun _ _ _ h => h) (Or.inr ⟨by rfl, rfl⟩) ?_ ?_
                            rotate_left
                            · simp only [Act.put, List.setIfInBounds_toArray, List.set_cons_zero, List.set_cons_succ, i64_w, i32_w]
                              rfl
                            refine pure_ (i := 14) (N := some 68) (v := undef) (a' := ?_) #[true, true, true, true, true, true, true, true, true, true, true, true, true, true, true, false, false, false, false, false, false, false, false] rfl rfl (any_of HT_.out (by kernel_rfl)) (fun _ _ _ h => h) (Or.inr ⟨by rfl, rfl⟩) ?_ ?_
                            rotate_left
                            · simp only [Act.put, List.setIfInBounds_toArray, List.set_cons_zero, List.set_cons_succ, i64_w, i32_w]
                              rfl
                            refine pure_ (i := 15) (N := some 69) (v := ?_) (a' := ?_) #[true, true, true, true, true, true, true, true, true, true, true, true, true, true, true, true, false, false, false, false, false, false, false] rfl rfl (any_of HT_.out (by kernel_rfl)) (fun _ _ _ h => h) (Or.inl ⟨by rfl, ?_⟩) ?_ ?_
                            rotate_left
                            · intro w'
                              go_simp
                              with_reducible rfl
                            rotate_left
                            · simp only [Act.put, List.setIfInBounds_toArray, List.set_cons_zero, List.set_cons_succ, i64_w, i32_w]
                              rfl
                            refine pure_ (i := 16) (N := some 70) (v := ?_) (a' := ?_) #[true, true, true, true, true, true, true, true, true, true, true, true, true, true, true, true, true, false, false, false, false, false, false] rfl rfl (any_of HT_.out (by kernel_rfl)) (fun _ _ _ h => h) (Or.inl ⟨by rfl, ?_⟩) ?_ ?_
                            rotate_left
                            · intro w'
                              go_simp
                              with_reducible rfl
                            rotate_left
                            · simp only [Act.put, List.setIfInBounds_toArray, List.set_cons_zero, List.set_cons_succ, i64_w, i32_w]
                              rfl
                            refine pure_ (i := 17) (N := some 71) (v := undef) (a' := ?_) #[true, true, true, true, true, true, true, true, true, true, true, true, true, true, true, true, true, true, false, false, false, false, false] rfl rfl (any_of HT_.out (by kernel_rfl)) (fun _ _ _ h => h) (Or.inr ⟨by rfl, rfl⟩) ?_ ?_
                            rotate_left
                            · simp only [Act.put, List.setIfInBounds_toArray, List.set_cons_zero, List.set_cons_succ, i64_w, i32_w]
                              rfl
                            refine pure_ (i := 18) (N := some 72) (v := undef) (a' := ?_) #[true, true, true, true, true, true, true, true, true, true, true, true, true, true, true, true, true, true, true, false, false, false, false] rfl rfl (any_of HT_.out (by kernel_rfl)) (fun _ _ _ h => h) (Or.inr ⟨by rfl, rfl⟩) ?_ ?_
                            rotate_left
                            · simp only [Act.put, List.setIfInBounds_toArray, List.set_cons_zero, List.set_cons_succ, i64_w, i32_w]
                              rfl
                            refine pure_ (i := 19) (N := some 73) (v := undef) (a' := ?_) #[true, true, true, true, true, true, true, true, true, true, true, true, true, true, true, true, true, true, true, true, false, false, false] rfl rfl (any_of HT_.out (by kernel_rfl)) (fun _ _ _ h => h) (Or.inr ⟨by rfl, rfl⟩) ?_ ?_
                            rotate_left
                            · simp only [Act.put, List.setIfInBounds_toArray, List.set_cons_zero, List.set_cons_succ, i64_w, i32_w]
                              rfl
                            refine pure_ (i := 20) (N := some 74) (v := undef) (a' := ?_) #[true, true, true, true, true, true, true, true, true, true, true, true, true, true, true, true, true, true, true, true, true, false, false] rfl rfl (any_of HT_.out (by kernel_rfl)) (fun _ _ _ h => h) (Or.inr ⟨by rfl, rfl⟩) ?_ ?_
                            rotate_left
                            · simp only [Act.put, List.setIfInBounds_toArray, List.set_cons_zero, List.set_cons_succ, i64_w, i32_w]
                              rfl
                            refine pure_ (i := 21) (N := some 75) (v := undef) (a' := ?_) #[true, true, true, true, true, true, true, true, true, true, true, true, true, true, true, true, true, true, true, true, true, true, false] rfl rfl (any_of HT_.out (by kernel_rfl)) (fun _ _ _ h => h) (Or.inr ⟨by rfl, rfl⟩) ?_ ?_
                            rotate_left
                            · simp only [Act.put, List.setIfInBounds_toArray, List.set_cons_zero, List.set_cons_succ, i64_w, i32_w]
                              rfl
                            refine pure_ (i := 22) (N := some 76) (v := ?_) (a' := ?_) #[true, true, true, true, true, true, true, true, true, true, true, true, true, true, true, true, true, true, true, true, true, true, true] rfl rfl (any_of HT_.out (by kernel_rfl)) (fun _ _ _ h => h) (Or.inl ⟨by rfl, ?_⟩) ?_ ?_
                            rotate_left
                            · intro w'
                              go_simp
                              with_reducible rfl
                            rotate_left
                            · simp only [Act.put, List.setIfInBounds_toArray, List.set_cons_zero, List.set_cons_succ, i64_w, i32_w]
                              rfl
                            refine done_ (done_of HT_.out (by kernel_rfl)) ?_
                            try go_wp2
                            go_meet
                            case rel => exact ⟨_, (true), (by first | rfl | (simp; done) | (simp [*]; done)), H', ⟨by have := HJ6.out; have := HK2.out; first | omega | exact Nat.le_refl _⟩, ⟨by (with_reducible repeat (first | refine blk_drewN ?_ _ | refine blk_drew ?_ | refine blk_alloc ?_ _)); exact BK153.out⟩, ⟨by (with_reducible repeat (first | refine blk_drewN ?_ _ | refine blk_drew ?_ | refine blk_alloc ?_ _)); exact BK154.out⟩, ⟨by repeat (first | (with_reducible first | exact HB.out | apply below_alloc | apply pw_below_drewN | apply below_drew1 | refine below_set ?_ GE153.out | refine below_set ?_ GE154.out) | exact HB.out)⟩⟩
                        case rest =>
                          clear HC32
                          try clear c1
                          try clear p1
                          try clear q1
                          try clear hx1
                          try clear p2
                          try clear c3
                          try clear q3
                          try clear c13
                          try clear p16
                          try clear q16
                          try clear hx16
                          try clear q33
                          try clear c34
                          try clear c35
                          try clear c35b0
                          try clear c35b1
                          try clear hx161_0
                          try clear hx161_1
                          try clear hx161_2
                          try clear hx162_0
                          try clear hx162_1
                          try clear hx162_2
                          try clear p161
                          try clear p162
                          try clear q161
                          try clear q162
                          obtain ⟨kq, x76_31, rfl, HA, HJ31, BK153, BK154, HB⟩ := hcut
                          cases kq with
                          | zero => exact absurd HA.out (by simp [paternosterlaw10_FeedGoes.j2])
                          | succ kj31 =>
                            have H := HA.out
                            clear HA
                            simp only [paternosterlaw10_FeedGoes.j2] at H
                            by_cases c44 : x76_31 = true
                            · subst c44
                              have H1 : (some false) = some r := by rw [if_pos rfl] at H; exact H
                              clear H
                              have H := H1
                              clear H1
                              obtain rfl := Option.some.inj H
                              go_wp2
                              go_ret
                              exact ⟨by first | rfl | (simp [errW_none, errW_some] <;> rfl) | (simp [*, errW_none, errW_some] <;> rfl), by repeat (first | (with_reducible first | exact HB.out | apply below_alloc | apply pw_below_drewN | apply below_drew1 | refine below_set ?_ GE153.out | refine below_set ?_ GE154.out) | exact HB.out)⟩
                            · replace c44 := Bool.eq_false_iff.mpr c44
                              subst c44
                              have H1 : (if 0 ≤ x11_2 then (if x11_2 < (l0.length : Int) then (paternosterlaw10_FeedGoes.j3 kj31 l0 x154000_2 ((rd_T25 l0 x11_2).f0) 0 (mn (mx ((rd_T25 l0 x11_2).f2) 1) 200) x11_2 t158 t159 t160) else (none)) else (none)) = some r := by rw [if_neg (show ¬ (false = true) by decide)] at H; exact H
                              clear H
                              have H := H1
                              clear H1
                              by_cases c45 : 0 ≤ x11_2
                              · rw [if_pos c45] at H
                                have c45b0 : decide (0 ≤ x11_2) = true := decide_eq_true c45
                                clear c45
                                by_cases c46 : x11_2 < (l0.length : Int)
                                · rw [if_pos c46] at H
                                  have c46b0 : decide (x11_2 < (l0.length : Int)) = true := decide_eq_true c46
                                  clear c46
                                  obtain ⟨ji47, hji47⟩ : ∃ j_ : Int, (mx ((rd_T25 l0 x11_2).f2) 1) = j_ := ⟨_, rfl⟩
                                  replace H : (paternosterlaw10_FeedGoes.j3 kj31 l0 x154000_2 ((rd_T25 l0 x11_2).f0) 0 (mn (ji47) 200) x11_2 t158 t159 t160) = some r := by first | (rw [hji47] at H; exact H) | (simp only [hji47] at H ⊢; exact H)
                                  have hji47_ : (if ((rd_T25 l0 x11_2).f2) < 1 then 1 else ((rd_T25 l0 x11_2).f2)) = ji47 := hji47
                                  obtain ⟨ji48, hji48⟩ : ∃ j_ : Int, (mn (ji47) 200) = j_ := ⟨_, rfl⟩
                                  replace H : (paternosterlaw10_FeedGoes.j3 kj31 l0 x154000_2 ((rd_T25 l0 x11_2).f0) 0 ji48 x11_2 t158 t159 t160) = some r := by first | (rw [hji48] at H; exact H) | (simp only [hji48] at H ⊢; exact H)
                                  have hji48_ : (if 200 < (ji47) then 200 else (ji47)) = ji48 := hji48
                                  have H' := Aside0.mk H
                                  clear H
                                  have hnb49 := NB154_153.out
                                  have hnc49 := NB153_154.out
                                  have hcz50_0 : wc.cell? ⟨gb154, 0, none⟩ = some (.int .i64 x154000_2) := (blk_cell BK154.out 0).trans rfl
                                  have hcz50_1 : wc.cell? ⟨gb154, 1, none⟩ = some (.int .i64 x154001_2) := (blk_cell BK154.out 1).trans rfl
                                  have hcz50_2 : wc.cell? ⟨gb154, 2, none⟩ = some (.int .i64 x154002_2) := (blk_cell BK154.out 2).trans rfl
                                  have hfz50_0 := blk_frozen BK154.out 0
                                  have hfz50_1 := blk_frozen BK154.out 1
                                  have hfz50_2 := blk_frozen BK154.out 2
                                  have p164 : 0 ≤ (x11_2 : Int) := of_decide_eq_true (by first | (with_reducible assumption) | assumption)
                                  have q164 : x11_2 < (l0.length : Int) := of_decide_eq_true (by first | (with_reducible assumption) | assumption)
                                  obtain ⟨ad164, e164, hx164_0, hx164_1, hx164_2⟩ := at_T25 HR0.out x11_2 p164 q164
                                  obtain rfl : ad155 = ad164 := (by injection e164)
                                  replace hx164_0 := (HB.out.cell (World.block_lt_of_cell? w _ hx164_0)).trans hx164_0
                                  replace hx164_1 := (HB.out.cell (World.block_lt_of_cell? w _ hx164_1)).trans hx164_1
                                  replace hx164_2 := (HB.out.cell (World.block_lt_of_cell? w _ hx164_2)).trans hx164_2
                                  replace p164 := eq_true p164
                                  replace q164 := eq_true q164
                                  have p165 : 0 ≤ (x11_2 : Int) := of_decide_eq_true (by first | (with_reducible assumption) | assumption)
                                  have q165 : x11_2 < (l0.length : Int) := of_decide_eq_true (by first | (with_reducible assumption) | assumption)
                                  obtain ⟨ad165, e165, hx165_0, hx165_1, hx165_2⟩ := at_T25 HR0.out x11_2 p165 q165
                                  obtain rfl : ad155 = ad165 := (by injection e165)
                                  replace hx165_0 := (HB.out.cell (World.block_lt_of_cell? w _ hx165_0)).trans hx165_0
                                  replace hx165_1 := (HB.out.cell (World.block_lt_of_cell? w _ hx165_1)).trans hx165_1
                                  replace hx165_2 := (HB.out.cell (World.block_lt_of_cell? w _ hx165_2)).trans hx165_2
                                  replace p165 := eq_true p165
                                  replace q165 := eq_true q165
                                  go_wp2
                                  go_meet
                                  case rel => exact ⟨_, (x154000_2), ((rd_T25 l0 x11_2).f0), (0), (ji48), (by first | rfl | (simp; done) | (simp [*]; done)), (by first | rfl | (simp; done) | (simp [*]; done)), (by first | rfl | (simp; done) | (simp [*]; done)), (by first | rfl | (simp; done) | (simp only [← hji48] <;> (first | rfl | simp)) | (simp [*]; done)), H', ⟨by have := HJ6.out; have := HK2.out; have := HJ31.out; first | omega | exact Nat.le_refl _⟩, ⟨by (with_reducible repeat (first | refine blk_drewN ?_ _ | refine blk_drew ?_ | refine blk_alloc ?_ _)); exact BK153.out⟩, ⟨by (with_reducible repeat (first | refine blk_drewN ?_ _ | refine blk_drew ?_ | refine blk_alloc ?_ _)); exact BK154.out⟩, ⟨by repeat (first | (with_reducible first | exact HB.out | apply below_alloc | apply pw_below_drewN | apply below_drew1 | refine below_set ?_ GE153.out | refine below_set ?_ GE154.out) | exact HB.out)⟩⟩
                                · rw [if_neg c46] at H
                                  exact absurd H (by simp)
                              · rw [if_neg c45] at H
                                exact absurd H (by simp)
                    case rest =>
                      clear HC18
                      try clear c1
                      try clear p1
                      try clear q1
                      try clear hx1
                      try clear p2
                      try clear c3
                      try clear q3
                      try clear c4
                      try clear c13
                      try clear p16
                      try clear q16
                      try clear hx16
                      try clear q33
                      try clear c34
                      try clear c35
                      try clear c35b0
                      try clear c35b1
                      try clear c44
                      try clear c45
                      try clear c45b0
                      try clear c46
                      try clear c46b0
                      try clear c49
                      try clear hcz50_0
                      try clear hcz50_1
                      try clear hcz50_2
                      try clear hfz50_0
                      try clear hfz50_1
                      try clear hfz50_2
                      try clear hx161_0
                      try clear hx161_1
                      try clear hx161_2
                      try clear hx162_0
                      try clear hx162_1
                      try clear hx162_2
                      try clear hx164_0
                      try clear hx164_1
                      try clear hx164_2
                      try clear hx165_0
                      try clear hx165_1
                      try clear hx165_2
                      try clear p1
                      try clear p16
                      try clear p161
                      try clear p162
                      try clear p164
                      try clear p165
                      try clear p2
                      try clear q1
                      try clear q16
                      try clear q161
                      try clear q162
                      try clear q164
                      try clear q165
                      try clear q3
                      try clear q33
                      obtain ⟨kq, x7_17, x8_17, x9_17, x10_17, rfl, rfl, rfl, rfl, HA, HJ17, BK153, BK154, HB⟩ := hcut
                      cases kq with
                      | zero => exact absurd HA.out (by simp [paternosterlaw10_FeedGoes.j3])
                      | succ kj17 =>
                        have H := HA.out
                        clear HA
                        simp only [paternosterlaw10_FeedGoes.j3] at H
                        by_cases c51 : (wrap64 (x9_17 + 1)) > x10_17
                        · rw [if_pos c51] at H
                          have c51b0 : decide (x10_17 < (wrap64 (x9_17 + 1))) = true := decide_eq_true c51
                          clear c51
                          obtain rfl := Option.some.inj H
                          go_wp2
                          go_ret
                          exact ⟨by first | rfl | (simp [errW_none, errW_some] <;> rfl) | (simp [*, errW_none, errW_some] <;> rfl), by repeat (first | (with_reducible first | exact HB.out | apply below_alloc | apply pw_below_drewN | apply below_drew1 | refine below_set ?_ GE153.out | refine below_set ?_ GE154.out) | exact HB.out)⟩
                        · rw [if_neg c51] at H
                          have c51b0 : decide (x10_17 < (wrap64 (x9_17 + 1))) = false := decide_eq_false c51
                          clear c51
                          replace H := Option.bind_eq_some_iff.mp H
                          obtain ⟨t166, A520, H⟩ := H
                          replace H : (if t166 = 0 then (paternosterlaw10_FeedGoes.l0 kj17 l0 x7_17 x8_17 (wrap64 (x9_17 + 1)) x10_17 (wrap64 (x11_2 + 1)) t158 t159 t160) else (some false)) = some r := H
                          have A52 := Aside0.mk A520
                          clear A520
                          by_cases c53 : t166 = 0
                          · rw [if_pos c53] at H
                            have c53b0 : (t166 == 0) = true := beq_iff_eq.mpr c53
                            have c53b1 : (t166 != 0) = false := bne_eq_false_iff_eq.mpr c53
                            clear c53
                            have H' := Aside0.mk H
                            clear H
                            have hnb54 := NB153_154.out
                            have hnc54 := NB154_153.out
                            have hcz55_0 : wc.cell? ⟨gb153, 0, none⟩ = some (.int .i64 t158) := (blk_cell BK153.out 0).trans rfl
                            have hcz55_1 : wc.cell? ⟨gb153, 1, none⟩ = some (.int .i64 t159) := (blk_cell BK153.out 1).trans rfl
                            have hcz55_2 : wc.cell? ⟨gb153, 2, none⟩ = some (.int .i64 t160) := (blk_cell BK153.out 2).trans rfl
                            have hfz55_0 := blk_frozen BK153.out 0
                            have hfz55_1 := blk_frozen BK153.out 1
                            have hfz55_2 := blk_frozen BK153.out 2
                            go_wp2_with (first | (go_at_call 13; (with_reducible refine (feed_Feed_Power.calls kj17 t158 t159 t160 true true t166 _ A52.out).mono ?_); rintro e w56 ⟨rfl, hb⟩; have n0_ := Aside0.mk (blk_below (g := gb153) (o := .cells #[.int .i64 t158, .int .i64 t159, .int .i64 t160] 23 (0, 0)) (by (with_reducible repeat (first | refine blk_drewN ?_ _ | refine blk_drew ?_ | refine blk_alloc ?_ _)); exact BK153.out) hb); have n1_ := Aside0.mk (blk_below (g := gb154) (o := .cells #[.int .i64 x154000_2, .int .i64 x154001_2, .int .i64 x154002_2] 23 (0, 0)) (by (with_reducible repeat (first | refine blk_drewN ?_ _ | refine blk_drew ?_ | refine blk_alloc ?_ _)); exact BK154.out) hb); have n2_ := Aside0.mk (below_step (by repeat (first | (with_reducible first | exact HB.out | apply below_alloc | apply pw_below_drewN | apply below_drew1 | refine below_set ?_ GE153.out | refine below_set ?_ GE154.out) | exact HB.out)) hb); clear BK153; clear BK154; clear HB; have BK153 := n0_; have BK154 := n1_; have HB := n2_; clear n0_ n1_ n2_; (try clear hb); (try clear hb2); (try clear hk); (try clear hi)))
                            go_roundg kj17
                            case measure => have := HJ6.out; have := HK2.out; have := HJ17.out; omega
                            case rel => exact ⟨(x7_17), (x8_17), (wrap64 (x9_17 + 1)), (x10_17), (wrap64 (x11_2 + 1)), (t158), (t159), (t160), (by first | rfl | (simp; done) | (simp [*]; done)), (by first | rfl | (simp; done) | (simp [*]; done)), (by first | rfl | (simp; done) | (simp [*]; done)), (by first | rfl | (simp; done) | (simp [*]; done)), (by first | rfl | (simp; done) | (simp [*]; done)), H', ⟨by have := HJ6.out; have := HK2.out; have := HJ17.out; omega⟩, ⟨by (with_reducible repeat (first | refine blk_drewN ?_ _ | refine blk_drew ?_ | refine blk_alloc ?_ _)); exact BK153.out⟩, ⟨by repeat (first | (with_reducible first | exact HB.out | apply below_alloc | apply pw_below_drewN | apply below_drew1 | refine below_set ?_ GE153.out | refine below_set ?_ GE154.out) | exact HB.out)⟩⟩
                          · rw [if_neg c53] at H
                            have c53b0 : (t166 == 0) = false := beq_eq_false_iff_ne.mpr c53
                            have c53b1 : (t166 != 0) = true := bne_iff_ne.mpr c53
                            obtain rfl := Option.some.inj H
                            have hnb57 := NB153_154.out
                            have hnc57 := NB154_153.out
                            have hcz58_0 : wc.cell? ⟨gb153, 0, none⟩ = some (.int .i64 t158) := (blk_cell BK153.out 0).trans rfl
                            have hcz58_1 : wc.cell? ⟨gb153, 1, none⟩ = some (.int .i64 t159) := (blk_cell BK153.out 1).trans rfl
                            have hcz58_2 : wc.cell? ⟨gb153, 2, none⟩ = some (.int .i64 t160) := (blk_cell BK153.out 2).trans rfl
                            have hfz58_0 := blk_frozen BK153.out 0
                            have hfz58_1 := blk_frozen BK153.out 1
                            have hfz58_2 := blk_frozen BK153.out 2
                            go_wp2_with (first | (go_at_call 13; (with_reducible refine (feed_Feed_Power.calls kj17 t158 t159 t160 true true t166 _ A52.out).mono ?_); rintro e w59 ⟨rfl, hb⟩; have n0_ := Aside0.mk (blk_below (g := gb153) (o := .cells #[.int .i64 t158, .int .i64 t159, .int .i64 t160] 23 (0, 0)) (by (with_reducible repeat (first | refine blk_drewN ?_ _ | refine blk_drew ?_ | refine blk_alloc ?_ _)); exact BK153.out) hb); have n1_ := Aside0.mk (blk_below (g := gb154) (o := .cells #[.int .i64 x154000_2, .int .i64 x154001_2, .int .i64 x154002_2] 23 (0, 0)) (by (with_reducible repeat (first | refine blk_drewN ?_ _ | refine blk_drew ?_ | refine blk_alloc ?_ _)); exact BK154.out) hb); have n2_ := Aside0.mk (below_step (by repeat (first | (with_reducible first | exact HB.out | apply below_alloc | apply pw_below_drewN | apply below_drew1 | refine below_set ?_ GE153.out | refine below_set ?_ GE154.out) | exact HB.out)) hb); clear BK153; clear BK154; clear HB; have BK153 := n0_; have BK154 := n1_; have HB := n2_; clear n0_ n1_ n2_; (try clear hb); (try clear hb2); (try clear hk); (try clear hi)))
                            go_ret
                            exact ⟨by first | rfl | (simp [errW_none, errW_some] <;> rfl) | (simp [*, errW_none, errW_some] <;> rfl), by repeat (first | (with_reducible first | exact HB.out | apply below_alloc | apply pw_below_drewN | apply below_drew1 | refine below_set ?_ GE153.out | refine below_set ?_ GE154.out) | exact HB.out)⟩
                  · rw [if_neg c17] at H
                    have c17b0 : (t158 == 0) = false := beq_eq_false_iff_ne.mpr c17
                    have c17b1 : (t158 != 0) = true := bne_iff_ne.mpr c17
                    have HC60 := Aside0.mk H
                    clear H
                    have hcz61_0 : wr.cell? ⟨gb153, 0, none⟩ = some (.int .i64 x154000_2) := (blk_cell BK153.out 0).trans rfl
                    have hcz61_1 : wr.cell? ⟨gb153, 1, none⟩ = some (.int .i64 x154001_2) := (blk_cell BK153.out 1).trans rfl
                    have hcz61_2 : wr.cell? ⟨gb153, 2, none⟩ = some (.int .i64 x154002_2) := (blk_cell BK153.out 2).trans rfl
                    have hfz61_0 := blk_frozen BK153.out 0
                    have hfz61_1 := blk_frozen BK153.out 1
                    have hfz61_2 := blk_frozen BK153.out 2
                    try go_wp2_with (first | ((with_reducible refine gate_dst (N := 12) rfl ?_); refine box_event ?hg (N := 12) ?hd (cs := #[.int .i64 0, .int .i64 0, .int .i64 0]) (t := 23) ?hr ?_; (case hd => rfl); (case hg => rfl); (case hr => first | (go_simp; done) | (go_simp; rfl)); intro gb154 hg w62 hbox hb; have n0_ := Aside0.mk (blk_below (g := gb153) (o := .cells #[.int .i64 x154000_2, .int .i64 x154001_2, .int .i64 x154002_2] 23 (0, 0)) (by (with_reducible repeat (first | refine blk_drewN ?_ _ | refine blk_drew ?_ | refine blk_alloc ?_ _)); exact BK153.out) hb); have n1_ := Aside0.mk (below_step (by repeat (first | (with_reducible first | exact HB.out | apply below_alloc | apply pw_below_drewN | apply below_drew1 | refine below_set ?_ GE153.out) | exact HB.out)) hb); have n2_ := Aside0.mk (hbox); have n3_ := Aside0.mk ((by rw [hg]; exact (below_size (by repeat (first | (with_reducible first | exact HB.out | apply below_alloc | apply pw_below_drewN | apply below_drew1 | refine below_set ?_ GE153.out) | exact HB.out))) : w.heap.size ≤ gb154)); have n4_ := Aside0.mk ((by rw [hg]; exact (below_size (by repeat (first | (with_reducible first | exact HB.out | apply below_alloc | apply pw_below_drewN | apply below_drew1 | refine below_set ?_ GE153.out) | exact HB.out))) : w.heap.size ≤ gb154)); have n5_ := Aside0.mk ((by rw [hg]; exact Nat.ne_of_lt (blk_lt (g := gb153) (o := .cells #[.int .i64 x154000_2, .int .i64 x154001_2, .int .i64 x154002_2] 23 (0, 0)) (by (with_reducible repeat (first | refine blk_drewN ?_ _ | refine blk_drew ?_ | refine blk_alloc ?_ _)); exact BK153.out)) : gb153 ≠ gb154)); have n6_ := Aside0.mk ((by rw [hg]; exact Nat.ne_of_gt (blk_lt (g := gb153) (o := .cells #[.int .i64 x154000_2, .int .i64 x154001_2, .int .i64 x154002_2] 23 (0, 0)) (by (with_reducible repeat (first | refine blk_drewN ?_ _ | refine blk_drew ?_ | refine blk_alloc ?_ _)); exact BK153.out)) : gb154 ≠ gb153)); clear BK153; clear HB; have BK153 := n0_; have HB := n1_; have BK154 := n2_; have GW154 := n3_; have GE154 := n4_; have NB153_154 := n5_; have NB154_153 := n6_; clear n0_ n1_ n2_ n3_ n4_ n5_ n6_; clear hb hbox hg; have hnb63 := NB154_153.out; have hnc63 := NB153_154.out; have hcz64_0 : w62.cell? ⟨gb154, 0, none⟩ = some (.int .i64 0) := (blk_cell BK154.out 0).trans rfl; have hcz64_1 : w62.cell? ⟨gb154, 1, none⟩ = some (.int .i64 0) := (blk_cell BK154.out 1).trans rfl; have hcz64_2 : w62.cell? ⟨gb154, 2, none⟩ = some (.int .i64 0) := (blk_cell BK154.out 2).trans rfl; have hfz64_0 := blk_frozen BK154.out 0; have hfz64_1 := blk_frozen BK154.out 1; have hfz64_2 := blk_frozen BK154.out 2))
                    have n0_ : Aside0 ((((w62.setCell ⟨gb154, 0, none⟩ (.int .i64 x154000_2)).setCell ⟨gb154, 1, none⟩ (.int .i64 x154001_2)).setCell ⟨gb154, 2, none⟩ (.int .i64 x154002_2)).heap[gb153]? = some (.cells #[.int .i64 x154000_2, .int .i64 x154001_2, .int .i64 x154002_2] 23 (0, 0))) := ⟨by (with_reducible repeat (first | refine blk_drewN ?_ _ | refine blk_drew ?_ | refine blk_alloc ?_ _)); refine blk_far ?_ NB153_154.out _; (with_reducible repeat (first | refine blk_drewN ?_ _ | refine blk_drew ?_ | refine blk_alloc ?_ _)); refine blk_far ?_ NB153_154.out _; (with_reducible repeat (first | refine blk_drewN ?_ _ | refine blk_drew ?_ | refine blk_alloc ?_ _)); refine blk_far ?_ NB153_154.out _; (with_reducible repeat (first | refine blk_drewN ?_ _ | refine blk_drew ?_ | refine blk_alloc ?_ _)); exact BK153.out⟩
                    have n1_ : Aside0 ((((w62.setCell ⟨gb154, 0, none⟩ (.int .i64 x154000_2)).setCell ⟨gb154, 1, none⟩ (.int .i64 x154001_2)).setCell ⟨gb154, 2, none⟩ (.int .i64 x154002_2)).heap[gb154]? = some (.cells #[.int .i64 x154000_2, .int .i64 x154001_2, .int .i64 x154002_2] 23 (0, 0))) := ⟨by (with_reducible repeat (first | refine blk_drewN ?_ _ | refine blk_drew ?_ | refine blk_alloc ?_ _)); refine blk_put (cs := #[.int .i64 x154000_2, .int .i64 x154001_2, .int .i64 0]) ?_ 2 _ rfl; (with_reducible repeat (first | refine blk_drewN ?_ _ | refine blk_drew ?_ | refine blk_alloc ?_ _)); refine blk_put (cs := #[.int .i64 x154000_2, .int .i64 0, .int .i64 0]) ?_ 1 _ rfl; (with_reducible repeat (first | refine blk_drewN ?_ _ | refine blk_drew ?_ | refine blk_alloc ?_ _)); refine blk_put (cs := #[.int .i64 0, .int .i64 0, .int .i64 0]) ?_ 0 _ rfl; (with_reducible repeat (first | refine blk_drewN ?_ _ | refine blk_drew ?_ | refine blk_alloc ?_ _)); exact BK154.out⟩
                    have n2_ : Aside0 (Below w.heap.size w (((w62.setCell ⟨gb154, 0, none⟩ (.int .i64 x154000_2)).setCell ⟨gb154, 1, none⟩ (.int .i64 x154001_2)).setCell ⟨gb154, 2, none⟩ (.int .i64 x154002_2))) := ⟨by repeat (first | (with_reducible first | exact HB.out | apply below_alloc | apply pw_below_drewN | apply below_drew1 | refine below_set ?_ GE153.out | refine below_set ?_ GE154.out) | exact HB.out)⟩
                    (try clear BK153)
                    (try clear BK154)
                    (try clear HB)
                    generalize (((w62.setCell ⟨gb154, 0, none⟩ (.int .i64 x154000_2)).setCell ⟨gb154, 1, none⟩ (.int .i64 x154001_2)).setCell ⟨gb154, 2, none⟩ (.int .i64 x154002_2)) = w65 at n0_ n1_ n2_ ⊢
                    have BK153 := n0_
                    have BK154 := n1_
                    have HB := n2_
                    clear n0_ n1_ n2_
                    have n0_ := Aside0.mk (blk_drew BK153.out)
                    have n1_ := Aside0.mk (blk_drew BK154.out)
                    have n2_ := Aside0.mk (below_drew1 HB.out)
                    clear BK153
                    clear BK154
                    clear HB
                    have BK153 := n0_
                    have BK154 := n1_
                    have HB := n2_
                    clear n0_ n1_ n2_
                    have p155 : 0 ≤ (x11_2 : Int) := of_decide_eq_true (by first | (with_reducible assumption) | assumption)
                    have q155 : x11_2 < (l0.length : Int) := of_decide_eq_true (by first | (with_reducible assumption) | assumption)
                    obtain ⟨ad155, e155, hx155_0, hx155_1, hx155_2⟩ := at_T25 HR0.out x11_2 p155 q155
                    have hw155_2 := hx155_2
                    have hw155_1 := hx155_1
                    have hw155_0 := hx155_0
                    cases e155
                    replace hx155_0 := (HB.out.cell (World.block_lt_of_cell? w _ hx155_0)).trans hx155_0
                    replace hx155_1 := (HB.out.cell (World.block_lt_of_cell? w _ hx155_1)).trans hx155_1
                    replace hx155_2 := (HB.out.cell (World.block_lt_of_cell? w _ hx155_2)).trans hx155_2
                    replace p155 := eq_true p155
                    replace q155 := eq_true q155
                    have p156 : 0 ≤ (x11_2 : Int) := of_decide_eq_true (by first | (with_reducible assumption) | assumption)
                    have q156 : x11_2 < (l0.length : Int) := of_decide_eq_true (by first | (with_reducible assumption) | assumption)
                    obtain ⟨ad156, e156, hx156_0, hx156_1, hx156_2⟩ := at_T25 HR0.out x11_2 p156 q156
                    have hw156_2 := hx156_2
                    have hw156_1 := hx156_1
                    have hw156_0 := hx156_0
                    obtain rfl : ad155 = ad156 := (by injection e156)
                    replace hx156_0 := (HB.out.cell (World.block_lt_of_cell? w _ hx156_0)).trans hx156_0
                    replace hx156_1 := (HB.out.cell (World.block_lt_of_cell? w _ hx156_1)).trans hx156_1
                    replace hx156_2 := (HB.out.cell (World.block_lt_of_cell? w _ hx156_2)).trans hx156_2
                    replace p156 := eq_true p156
                    replace q156 := eq_true q156
                    have p157 : 0 ≤ (x11_2 : Int) := of_decide_eq_true (by first | (with_reducible assumption) | assumption)
                    have q157 : x11_2 < (l0.length : Int) := of_decide_eq_true (by first | (with_reducible assumption) | assumption)
                    obtain ⟨ad157, e157, hx157_0, hx157_1, hx157_2⟩ := at_T25 HR0.out x11_2 p157 q157
                    have hw157_2 := hx157_2
                    have hw157_1 := hx157_1
                    have hw157_0 := hx157_0
                    obtain rfl : ad155 = ad157 := (by injection e157)
                    replace hx157_0 := (HB.out.cell (World.block_lt_of_cell? w _ hx157_0)).trans hx157_0
                    replace hx157_1 := (HB.out.cell (World.block_lt_of_cell? w _ hx157_1)).trans hx157_1
                    replace hx157_2 := (HB.out.cell (World.block_lt_of_cell? w _ hx157_2)).trans hx157_2
                    replace p157 := eq_true p157
                    replace q157 := eq_true q157
                    refine start_ (n := 18) (S := fun w' => w'.cell? ⟨gb153, 0, none⟩ = some (.int .i64 x154000_2) ∧ w'.cell? ⟨gb153, 1, none⟩ = some (.int .i64 x154001_2) ∧ w'.cell? ⟨gb153, 2, none⟩ = some (.int .i64 x154002_2) ∧ w'.cell? (ad155.add ((x11_2).toNat * 3)) = some (.int .i64 ((rd_T25 l0 x11_2).f0)) ∧ w'.cell? ⟨(ad155.add ((x11_2).toNat * 3)).block, (ad155.add ((x11_2).toNat * 3)).off + 1, none⟩ = some (.bool ((rd_T25 l0 x11_2).f1)) ∧ w'.cell? ⟨(ad155.add ((x11_2).toNat * 3)).block, (ad155.add ((x11_2).toNat * 3)).off + 2, none⟩ = some (.int .i64 ((rd_T25 l0 x11_2).f2)) ∧ w'.cell? (ad155.add ((x11_2).toNat * 3)) = some (.int .i64 ((rd_T25 l0 x11_2).f0)) ∧ w'.cell? ⟨(ad155.add ((x11_2).toNat * 3)).block, (ad155.add ((x11_2).toNat * 3)).off + 1, none⟩ = some (.bool ((rd_T25 l0 x11_2).f1)) ∧ w'.cell? ⟨(ad155.add ((x11_2).toNat * 3)).block, (ad155.add ((x11_2).toNat * 3)).off + 2, none⟩ = some (.int .i64 ((rd_T25 l0 x11_2).f2)) ∧ w'.cell? (ad155.add ((x11_2).toNat * 3)) = some (.int .i64 ((rd_T25 l0 x11_2).f0)) ∧ w'.cell? ⟨(ad155.add ((x11_2).toNat * 3)).block, (ad155.add ((x11_2).toNat * 3)).off + 1, none⟩ = some (.bool ((rd_T25 l0 x11_2).f1)) ∧ w'.cell? ⟨(ad155.add ((x11_2).toNat * 3)).block, (ad155.add ((x11_2).toNat * 3)).off + 2, none⟩ = some (.int .i64 ((rd_T25 l0 x11_2).f2))) (ds := [17]) #[false, false, false, false, false, false, false, false, false, false, false, false, false, false, false, false, false, false] (by kernel_rfl) rfl rfl ⟨(blk_cell BK153.out 0).trans rfl, (blk_cell BK153.out 1).trans rfl, (blk_cell BK153.out 2).trans rfl, ((HB.out.cell (World.block_lt_of_cell? w _ hw155_0)).trans hw155_0), ((HB.out.cell (World.block_lt_of_cell? w _ hw155_1)).trans hw155_1), ((HB.out.cell (World.block_lt_of_cell? w _ hw155_2)).trans hw155_2), ((HB.out.cell (World.block_lt_of_cell? w _ hw156_0)).trans hw156_0), ((HB.out.cell (World.block_lt_of_cell? w _ hw156_1)).trans hw156_1), ((HB.out.cell (World.block_lt_of_cell? w _ hw156_2)).trans hw156_2), ((HB.out.cell (World.block_lt_of_cell? w _ hw157_0)).trans hw157_0), ((HB.out.cell (World.block_lt_of_cell? w _ hw157_1)).trans hw157_1), ((HB.out.cell (World.block_lt_of_cell? w _ hw157_2)).trans hw157_2)⟩ (fun hHeld => ?_); refine with_tabW paternosterlaw10_FeedGoes.tab17 paternosterlaw10_FeedGoes.bits17 (fun HT_ HW_ => ?_)
                    generalize w65.drew = w66 at BK153 BK154 HB hx155_0 hx155_1 hx155_2 hx156_0 hx156_1 hx156_2 hx157_0 hx157_1 hx157_2 hHeld ⊢
                    refine pure_ (i := 1) (N := some 32) (v := ?_) (a' := ?_) #[false, true, false, false, false, false, false, false, false, false, false, false, false, false, false, false, false, false] rfl rfl (any_of HT_.out (by kernel_rfl)) (fun _ _ _ h => h) (Or.inl ⟨by rfl, ?_⟩) ?_ ?_
                    rotate_left
                    · intro w'
                      go_simp
                      with_reducible rfl
                    rotate_left
                    · simp only [Act.put, List.setIfInBounds_toArray, List.set_cons_zero, List.set_cons_succ, i64_w, i32_w]
                      rfl
                    refine pure_ (i := 2) (N := some 33) (v := ?_) (a' := ?_) #[false, true, true, false, false, false, false, false, false, false, false, false, false, false, false, false, false, false] rfl rfl (any_of HT_.out (by kernel_rfl)) (fun _ _ _ h => h) (Or.inl ⟨by rfl, ?_⟩) ?_ ?_
                    rotate_left
                    · intro w'
                      go_simp
                      with_reducible rfl
                    rotate_left
                    · simp only [Act.put, List.setIfInBounds_toArray, List.set_cons_zero, List.set_cons_succ, i64_w, i32_w]
                      rfl
                    refine pure_ (i := 3) (N := some 34) (v := ?_) (a' := ?_) #[false, true, true, true, false, false, false, false, false, false, false, false, false, false, false, false, false, false] rfl rfl (any_of HT_.out (by kernel_rfl)) (fun _ _ _ h => h) (Or.inl ⟨by rfl, ?_⟩) ?_ ?_
                    rotate_left
                    · intro w'
                      go_simp
                      with_reducible rfl
                    rotate_left
                    · simp only [Act.put, List.setIfInBounds_toArray, List.set_cons_zero, List.set_cons_succ, i64_w, i32_w]
                      rfl
                    refine pure_ (i := 4) (N := some 35) (v := ?_) (a' := ?_) #[false, true, true, true, true, false, false, false, false, false, false, false, false, false, false, false, false, false] rfl rfl (any_of HT_.out (by kernel_rfl)) (fun _ _ _ h => h) (Or.inl ⟨by rfl, ?_⟩) ?_ ?_
                    rotate_left
                    · intro w'
                      go_simp
                      with_reducible rfl
                    rotate_left
                    · simp only [Act.put, List.setIfInBounds_toArray, List.set_cons_zero, List.set_cons_succ, i64_w, i32_w]
                      rfl
                    refine pure_ (i := 6) (N := some 37) (v := ?_) (a' := ?_) #[false, true, true, true, true, false, true, false, false, false, false, false, false, false, false, false, false, false] rfl rfl (any_of HT_.out (by kernel_rfl)) (fun _ _ _ h => h) (Or.inl ⟨by rfl, ?_⟩) ?_ ?_
                    rotate_left
                    · intro w'
                      go_simp
                      with_reducible rfl
                    rotate_left
                    · simp only [Act.put, List.setIfInBounds_toArray, List.set_cons_zero, List.set_cons_succ, i64_w, i32_w]
                      rfl
                    refine pure_ (i := 7) (N := some 38) (v := ?_) (a' := ?_) #[false, true, true, true, true, false, true, true, false, false, false, false, false, false, false, false, false, false] rfl rfl (any_of HT_.out (by kernel_rfl)) (fun _ _ _ h => h) (Or.inl ⟨by rfl, ?_⟩) ?_ ?_
                    rotate_left
                    · intro w'
                      go_simp
                      with_reducible rfl
                    rotate_left
                    · simp only [Act.put, List.setIfInBounds_toArray, List.set_cons_zero, List.set_cons_succ, i64_w, i32_w]
                      rfl
                    refine pure_ (i := 8) (N := some 39) (v := ?_) (a' := ?_) #[false, true, true, true, true, false, true, true, true, false, false, false, false, false, false, false, false, false] rfl rfl (any_of HT_.out (by kernel_rfl)) (fun _ _ _ h => h) (Or.inl ⟨by rfl, ?_⟩) ?_ ?_
                    rotate_left
                    · intro w'
                      go_simp
                      with_reducible rfl
                    rotate_left
                    · simp only [Act.put, List.setIfInBounds_toArray, List.set_cons_zero, List.set_cons_succ, i64_w, i32_w]
                      rfl
                    refine pure_ (i := 9) (N := some 40) (v := ?_) (a' := ?_) #[false, true, true, true, true, false, true, true, true, true, false, false, false, false, false, false, false, false] rfl rfl (any_of HT_.out (by kernel_rfl)) (fun _ _ _ h => h) (Or.inl ⟨by rfl, ?_⟩) ?_ ?_
                    rotate_left
                    · intro w'
                      go_simp
                      with_reducible rfl
                    rotate_left
                    · simp only [Act.put, List.setIfInBounds_toArray, List.set_cons_zero, List.set_cons_succ, i64_w, i32_w]
                      rfl
                    refine pure_ (i := 11) (N := some 42) (v := ?_) (a' := ?_) #[false, true, true, true, true, false, true, true, true, true, false, true, false, false, false, false, false, false] rfl rfl (any_of HT_.out (by kernel_rfl)) (fun _ _ _ h => h) (Or.inl ⟨by rfl, ?_⟩) ?_ ?_
                    rotate_left
                    · intro w'
                      go_simp
                      with_reducible rfl
                    rotate_left
                    · simp only [Act.put, List.setIfInBounds_toArray, List.set_cons_zero, List.set_cons_succ, i64_w, i32_w]
                      rfl
                    refine pure_ (i := 12) (N := some 43) (v := ?_) (a' := ?_) #[false, true, true, true, true, false, true, true, true, true, false, true, true, false, false, false, false, false] rfl rfl (any_of HT_.out (by kernel_rfl)) (fun _ _ _ h => h) (Or.inl ⟨by rfl, ?_⟩) ?_ ?_
                    rotate_left
                    · intro w'
                      go_simp
                      with_reducible rfl
                    rotate_left
                    · simp only [Act.put, List.setIfInBounds_toArray, List.set_cons_zero, List.set_cons_succ, i64_w, i32_w]
                      rfl
                    refine pure_ (i := 13) (N := some 44) (v := ?_) (a' := ?_) #[false, true, true, true, true, false, true, true, true, true, false, true, true, true, false, false, false, false] rfl rfl (any_of HT_.out (by kernel_rfl)) (fun _ _ _ h => h) (Or.inl ⟨by rfl, ?_⟩) ?_ ?_
                    rotate_left
                    · intro w'
                      go_simp
                      with_reducible rfl
                    rotate_left
                    · simp only [Act.put, List.setIfInBounds_toArray, List.set_cons_zero, List.set_cons_succ, i64_w, i32_w]
                      rfl
                    refine pure_ (i := 14) (N := some 45) (v := ?_) (a' := ?_) #[false, true, true, true, true, false, true, true, true, true, false, true, true, true, true, false, false, false] rfl rfl (any_of HT_.out (by kernel_rfl)) (fun _ _ _ h => h) (Or.inl ⟨by rfl, ?_⟩) ?_ ?_
                    rotate_left
                    · intro w'
                      go_simp
                      with_reducible rfl
                    rotate_left
                    · simp only [Act.put, List.setIfInBounds_toArray, List.set_cons_zero, List.set_cons_succ, i64_w, i32_w]
                      rfl
                    refine take_ (i := 0) (N := some 31) (v := ?_) (a' := ?_) #[true, true, true, true, true, false, true, true, true, true, false, true, true, true, true, false, false, false] rfl rfl (take_ofW HT_.out HW_.out (by kernel_rfl)) (fun _ _ _ h => h) (Or.inl ⟨by rfl, ?_⟩) hHeld ?_ ?_
                    rotate_left
                    · rintro w' ⟨s0, s1, s2, s3, s4, s5, s6, s7, s8, s9, s10, s11⟩
                      go_simp
                      with_reducible rfl
                    rotate_left
                    · simp only [Act.put, List.setIfInBounds_toArray, List.set_cons_zero, List.set_cons_succ, i64_w, i32_w]
                      rfl
                    refine take_ (i := 5) (N := some 36) (v := ?_) (a' := ?_) #[true, true, true, true, true, true, true, true, true, true, false, true, true, true, true, false, false, false] rfl rfl (take_ofW HT_.out HW_.out (by kernel_rfl)) (fun _ _ _ h => h) (Or.inl ⟨by rfl, ?_⟩) hHeld ?_ ?_
                    rotate_left
                    · rintro w' ⟨s0, s1, s2, s3, s4, s5, s6, s7, s8, s9, s10, s11⟩
                      go_simp
                      with_reducible rfl
                    rotate_left
                    · simp only [Act.put, List.setIfInBounds_toArray, List.set_cons_zero, List.set_cons_succ, i64_w, i32_w]
                      rfl
                    refine take_ (i := 10) (N := some 41) (v := ?_) (a' := ?_) #[true, true, true, true, true, true, true, true, true, true, true, true, true, true, true, false, false, false] rfl rfl (take_ofW HT_.out HW_.out (by kernel_rfl)) (fun _ _ _ h => h) (Or.inl ⟨by rfl, ?_⟩) hHeld ?_ ?_
                    rotate_left
                    · rintro w' ⟨s0, s1, s2, s3, s4, s5, s6, s7, s8, s9, s10, s11⟩
                      go_simp
                      with_reducible rfl
                    rotate_left
                    · simp only [Act.put, List.setIfInBounds_toArray, List.set_cons_zero, List.set_cons_succ, i64_w, i32_w]
                      rfl
                    refine take_ (i := 15) (N := some 46) (v := ?_) (a' := ?_) #[true, true, true, true, true, true, true, true, true, true, true, true, true, true, true, true, false, false] rfl rfl (take_ofW HT_.out HW_.out (by kernel_rfl)) (fun _ _ _ h => h) (Or.inl ⟨by rfl, ?_⟩) hHeld ?_ ?_
                    rotate_left
                    · rintro w' ⟨s0, s1, s2, s3, s4, s5, s6, s7, s8, s9, s10, s11⟩
                      go_simp
                      with_reducible rfl
                    rotate_left
                    · simp only [Act.put, List.setIfInBounds_toArray, List.set_cons_zero, List.set_cons_succ, i64_w, i32_w]
                      rfl
                    refine one_ (i := 16) (N := some 47) #[true, true, true, true, true, true, true, true, true, true, true, true, true, true, true, true, true, false] rfl rfl (one_of HT_.out (by kernel_rfl)) (by decide) (fun K hK => ?_)
                    refine goes_ Try.func10 (by kernel_rfl) rfl #[.agg #[.int .i64 x154000_2, .int .i64 x154001_2, .int .i64 x154002_2], .int .i64 ((rd_T25 l0 x11_2).f0), .bool ((rd_T25 l0 x11_2).f1), .int .i64 ((rd_T25 l0 x11_2).f2)] (by rfl) rfl rfl (by (try simp only [List.map_toArray, List.map_cons, List.map_nil]); first | done | rfl | (simp only [List.length_drop, List.length_take]; rfl)) ?_
                    with_reducible refine (feed_Feed_Step.calls x154000_2 x154001_2 x154002_2 ((rd_T25 l0 x11_2).f0) ((rd_T25 l0 x11_2).f1) ((rd_T25 l0 x11_2).f2) t158 t159 t160 _ A16.out).mono ?_
                    rintro e w67 ⟨rfl, hb⟩
                    refine ⟨_, rfl, ?_⟩
                    have n0_ := Aside0.mk (blk_below (g := gb153) (o := .cells #[.int .i64 x154000_2, .int .i64 x154001_2, .int .i64 x154002_2] 23 (0, 0)) (by (with_reducible repeat (first | refine blk_drewN ?_ _ | refine blk_drew ?_ | refine blk_alloc ?_ _)); exact BK153.out) hb)
                    have n1_ := Aside0.mk (blk_below (g := gb154) (o := .cells #[.int .i64 x154000_2, .int .i64 x154001_2, .int .i64 x154002_2] 23 (0, 0)) (by (with_reducible repeat (first | refine blk_drewN ?_ _ | refine blk_drew ?_ | refine blk_alloc ?_ _)); exact BK154.out) hb)
                    have n2_ := Aside0.mk (below_step (by repeat (first | (with_reducible first | exact HB.out | apply below_alloc | apply pw_below_drewN | apply below_drew1 | refine below_set ?_ GE153.out | refine below_set ?_ GE154.out) | exact HB.out)) hb)
                    clear BK153
                    clear BK154
                    clear HB
                    have BK153 := n0_
                    have BK154 := n1_
                    have HB := n2_
                    clear n0_ n1_ n2_
                    (try clear hb)
                    (try clear hb2)
                    (try clear hk)
                    (try clear hi)
                    refine hK.out _ _ ⟨(blk_cell BK153.out 0).trans rfl, (blk_cell BK153.out 1).trans rfl, (blk_cell BK153.out 2).trans rfl, ((HB.out.cell (World.block_lt_of_cell? w _ hw155_0)).trans hw155_0), ((HB.out.cell (World.block_lt_of_cell? w _ hw155_1)).trans hw155_1), ((HB.out.cell (World.block_lt_of_cell? w _ hw155_2)).trans hw155_2), ((HB.out.cell (World.block_lt_of_cell? w _ hw156_0)).trans hw156_0), ((HB.out.cell (World.block_lt_of_cell? w _ hw156_1)).trans hw156_1), ((HB.out.cell (World.block_lt_of_cell? w _ hw156_2)).trans hw156_2), ((HB.out.cell (World.block_lt_of_cell? w _ hw157_0)).trans hw157_0), ((HB.out.cell (World.block_lt_of_cell? w _ hw157_1)).trans hw157_1), ((HB.out.cell (World.block_lt_of_cell? w _ hw157_2)).trans hw157_2)⟩ (fun hHeld => ?_)
                    clear hK K
                    refine norm_ (a' := ?_) ?_ ?_
                    rotate_left
                    · show Act.put _ (some 47) _ = _
                      simp only [Act.put, List.setIfInBounds_toArray, List.set_cons_zero, List.set_cons_succ, i64_w, i32_w]
                      rfl
                    refine last_ (i := 17) (N := none) #[true, true, true, true, true, true, true, true, true, true, true, true, true, true, true, true, true, true] rfl rfl (one_of HT_.out (by kernel_rfl)) (by decide) (fun K hK => ?_)
                    have hs68 : w67.cell? ⟨gb153, 0, none⟩ = some (.int .i64 x154000_2) := (blk_cell BK153.out 0).trans rfl
                    have hfs68 := blk_frozen BK153.out 0
                    have hns68_1 := NB154_153.out
                    have hms68_1 := NB153_154.out
                    have hs69 : w67.cell? ⟨gb153, 1, none⟩ = some (.int .i64 x154001_2) := (blk_cell BK153.out 1).trans rfl
                    have hfs69 := blk_frozen BK153.out 1
                    have hns69_1 := NB154_153.out
                    have hms69_1 := NB153_154.out
                    have hs70 : w67.cell? ⟨gb153, 2, none⟩ = some (.int .i64 x154002_2) := (blk_cell BK153.out 2).trans rfl
                    have hfs70 := blk_frozen BK153.out 2
                    have hns70_1 := NB154_153.out
                    have hms70_1 := NB153_154.out
                    refine skip_ (w1 := ?_) (by rfl) rfl ?_ ?_
                    rotate_left
                    · go_simp
                      rfl
                    refine hK.out _ _ ?_
                    clear hK K
                    refine done_ (done_of HT_.out (by kernel_rfl)) ?_
                    have hcz71_0 : w67.cell? ⟨gb153, 0, none⟩ = some (.int .i64 x154000_2) := (blk_cell BK153.out 0).trans rfl
                    have hcz71_1 : w67.cell? ⟨gb153, 1, none⟩ = some (.int .i64 x154001_2) := (blk_cell BK153.out 1).trans rfl
                    have hcz71_2 : w67.cell? ⟨gb153, 2, none⟩ = some (.int .i64 x154002_2) := (blk_cell BK153.out 2).trans rfl
                    have hfz71_0 := blk_frozen BK153.out 0
                    have hfz71_1 := blk_frozen BK153.out 1
                    have hfz71_2 := blk_frozen BK153.out 2
                    go_upto_region 29 with (fail)
                    go_cut [130] (fun v130 wc => ∃ (kq : Nat) (x130_59 : Bool), v130 = .bool x130_59 ∧ Aside0 (paternosterlaw10_FeedGoes.j4 kq l0 x7_2 x8_2 x9_2 x10_2 x11_2 x130_59 t158 t159 t160 = some r) ∧ Aside0 (kq ≤ k2) ∧ Aside0 (wc.heap[gb153]? = some (.cells #[.int .i64 t158, .int .i64 t159, .int .i64 t160] 23 (0, 0))) ∧ Aside0 (wc.heap[gb154]? = some (.cells #[.int .i64 x154000_2, .int .i64 x154001_2, .int .i64 x154002_2] 23 (0, 0))) ∧ Aside0 (Below w.heap.size w wc))
                    case first =>
                      have H := HC60.out
                      clear HC60
                      by_cases c72 : x154000_2 = 0
                      · rw [if_pos c72] at H
                        have c72b0 : (x154000_2 == 0) = true := beq_iff_eq.mpr c72
                        have c72b1 : (x154000_2 != 0) = false := bne_eq_false_iff_eq.mpr c72
                        clear c72
                        (first | rw [c72b0] | (simp only [i64_w, i32_w]; rw [c72b0]) | skip)
                        by_cases c73 : t158 = x8_2
                        · rw [if_pos c73] at H
                          have c73b0 : (t158 == x8_2) = true := beq_iff_eq.mpr c73
                          have c73b1 : (t158 != x8_2) = false := bne_eq_false_iff_eq.mpr c73
                          clear c73
                          by_cases c74 : t158 = x7_2
                          · rw [if_pos c74] at H
                            have c74b0 : (t158 == x7_2) = true := beq_iff_eq.mpr c74
                            have c74b1 : (t158 != x7_2) = false := bne_eq_false_iff_eq.mpr c74
                            clear c74
                            have H' := Aside0.mk H
                            clear H
                            have hnb75 := NB154_153.out
                            have hnc75 := NB153_154.out
                            have hcz76_0 : w67.cell? ⟨gb154, 0, none⟩ = some (.int .i64 x154000_2) := (blk_cell BK154.out 0).trans rfl
                            have hcz76_1 : w67.cell? ⟨gb154, 1, none⟩ = some (.int .i64 x154001_2) := (blk_cell BK154.out 1).trans rfl
                            have hcz76_2 : w67.cell? ⟨gb154, 2, none⟩ = some (.int .i64 x154002_2) := (blk_cell BK154.out 2).trans rfl
                            have hfz76_0 := blk_frozen BK154.out 0
                            have hfz76_1 := blk_frozen BK154.out 1
                            have hfz76_2 := blk_frozen BK154.out 2
                            have hcz77_0 : w67.cell? ⟨gb153, 0, none⟩ = some (.int .i64 x154000_2) := (blk_cell BK153.out 0).trans rfl
                            have hcz77_1 : w67.cell? ⟨gb153, 1, none⟩ = some (.int .i64 x154001_2) := (blk_cell BK153.out 1).trans rfl
                            have hcz77_2 : w67.cell? ⟨gb153, 2, none⟩ = some (.int .i64 x154002_2) := (blk_cell BK153.out 2).trans rfl
                            have hfz77_0 := blk_frozen BK153.out 0
                            have hfz77_1 := blk_frozen BK153.out 1
                            have hfz77_2 := blk_frozen BK153.out 2
                            go_wp2
                            go_meet
                            case rel => exact ⟨_, (true), (by first | rfl | (simp; done) | (simp [*]; done)), H', ⟨by have := HJ6.out; have := HK2.out; first | omega | exact Nat.le_refl _⟩, ⟨by (with_reducible repeat (first | refine blk_drewN ?_ _ | refine blk_drew ?_ | refine blk_alloc ?_ _)); refine blk_put (cs := #[.int .i64 t158, .int .i64 t159, .int .i64 x154002_2]) ?_ 2 _ rfl; (with_reducible repeat (first | refine blk_drewN ?_ _ | refine blk_drew ?_ | refine blk_alloc ?_ _)); refine blk_put (cs := #[.int .i64 t158, .int .i64 x154001_2, .int .i64 x154002_2]) ?_ 1 _ rfl; (with_reducible repeat (first | refine blk_drewN ?_ _ | refine blk_drew ?_ | refine blk_alloc ?_ _)); refine blk_put (cs := #[.int .i64 x154000_2, .int .i64 x154001_2, .int .i64 x154002_2]) ?_ 0 _ rfl; (with_reducible repeat (first | refine blk_drewN ?_ _ | refine blk_drew ?_ | refine blk_alloc ?_ _)); exact BK153.out⟩, ⟨by (with_reducible repeat (first | refine blk_drewN ?_ _ | refine blk_drew ?_ | refine blk_alloc ?_ _)); refine blk_far ?_ NB154_153.out _; (with_reducible repeat (first | refine blk_drewN ?_ _ | refine blk_drew ?_ | refine blk_alloc ?_ _)); refine blk_far ?_ NB154_153.out _; (with_reducible repeat (first | refine blk_drewN ?_ _ | refine blk_drew ?_ | refine blk_alloc ?_ _)); refine blk_far ?_ NB154_153.out _; (with_reducible repeat (first | refine blk_drewN ?_ _ | refine blk_drew ?_ | refine blk_alloc ?_ _)); exact BK154.out⟩, ⟨by repeat (first | (with_reducible first | exact HB.out | apply below_alloc | apply pw_below_drewN | apply below_drew1 | refine below_set ?_ GE153.out | refine below_set ?_ GE154.out) | exact HB.out)⟩⟩
                          · rw [if_neg c74] at H
                            have c74b0 : (t158 == x7_2) = false := beq_eq_false_iff_ne.mpr c74
                            have c74b1 : (t158 != x7_2) = true := bne_iff_ne.mpr c74
                            by_cases c78 : x9_2 = x10_2
                            · rw [if_pos c78] at H
                              have c78b0 : (x9_2 == x10_2) = true := beq_iff_eq.mpr c78
                              have c78b1 : (x9_2 != x10_2) = false := bne_eq_false_iff_eq.mpr c78
                              clear c78
                              have H' := Aside0.mk H
                              clear H
                              have hnb79 := NB154_153.out
                              have hnc79 := NB153_154.out
                              have hcz80_0 : w67.cell? ⟨gb154, 0, none⟩ = some (.int .i64 x154000_2) := (blk_cell BK154.out 0).trans rfl
                              have hcz80_1 : w67.cell? ⟨gb154, 1, none⟩ = some (.int .i64 x154001_2) := (blk_cell BK154.out 1).trans rfl
                              have hcz80_2 : w67.cell? ⟨gb154, 2, none⟩ = some (.int .i64 x154002_2) := (blk_cell BK154.out 2).trans rfl
                              have hfz80_0 := blk_frozen BK154.out 0
                              have hfz80_1 := blk_frozen BK154.out 1
                              have hfz80_2 := blk_frozen BK154.out 2
                              have hcz81_0 : w67.cell? ⟨gb153, 0, none⟩ = some (.int .i64 x154000_2) := (blk_cell BK153.out 0).trans rfl
                              have hcz81_1 : w67.cell? ⟨gb153, 1, none⟩ = some (.int .i64 x154001_2) := (blk_cell BK153.out 1).trans rfl
                              have hcz81_2 : w67.cell? ⟨gb153, 2, none⟩ = some (.int .i64 x154002_2) := (blk_cell BK153.out 2).trans rfl
                              have hfz81_0 := blk_frozen BK153.out 0
                              have hfz81_1 := blk_frozen BK153.out 1
                              have hfz81_2 := blk_frozen BK153.out 2
                              go_wp2
                              go_meet
                              case rel => exact ⟨_, (false), (by first | rfl | (simp; done) | (simp [*]; done)), H', ⟨by have := HJ6.out; have := HK2.out; first | omega | exact Nat.le_refl _⟩, ⟨by (with_reducible repeat (first | refine blk_drewN ?_ _ | refine blk_drew ?_ | refine blk_alloc ?_ _)); refine blk_put (cs := #[.int .i64 t158, .int .i64 t159, .int .i64 x154002_2]) ?_ 2 _ rfl; (with_reducible repeat (first | refine blk_drewN ?_ _ | refine blk_drew ?_ | refine blk_alloc ?_ _)); refine blk_put (cs := #[.int .i64 t158, .int .i64 x154001_2, .int .i64 x154002_2]) ?_ 1 _ rfl; (with_reducible repeat (first | refine blk_drewN ?_ _ | refine blk_drew ?_ | refine blk_alloc ?_ _)); refine blk_put (cs := #[.int .i64 x154000_2, .int .i64 x154001_2, .int .i64 x154002_2]) ?_ 0 _ rfl; (with_reducible repeat (first | refine blk_drewN ?_ _ | refine blk_drew ?_ | refine blk_alloc ?_ _)); exact BK153.out⟩, ⟨by (with_reducible repeat (first | refine blk_drewN ?_ _ | refine blk_drew ?_ | refine blk_alloc ?_ _)); refine blk_far ?_ NB154_153.out _; (with_reducible repeat (first | refine blk_drewN ?_ _ | refine blk_drew ?_ | refine blk_alloc ?_ _)); refine blk_far ?_ NB154_153.out _; (with_reducible repeat (first | refine blk_drewN ?_ _ | refine blk_drew ?_ | refine blk_alloc ?_ _)); refine blk_far ?_ NB154_153.out _; (with_reducible repeat (first | refine blk_drewN ?_ _ | refine blk_drew ?_ | refine blk_alloc ?_ _)); exact BK154.out⟩, ⟨by repeat (first | (with_reducible first | exact HB.out | apply below_alloc | apply pw_below_drewN | apply below_drew1 | refine below_set ?_ GE153.out | refine below_set ?_ GE154.out) | exact HB.out)⟩⟩
                            · rw [if_neg c78] at H
                              have c78b0 : (x9_2 == x10_2) = false := beq_eq_false_iff_ne.mpr c78
                              have c78b1 : (x9_2 != x10_2) = true := bne_iff_ne.mpr c78
                              have H' := Aside0.mk H
                              clear H
                              have hnb82 := NB154_153.out
                              have hnc82 := NB153_154.out
                              have hcz83_0 : w67.cell? ⟨gb154, 0, none⟩ = some (.int .i64 x154000_2) := (blk_cell BK154.out 0).trans rfl
                              have hcz83_1 : w67.cell? ⟨gb154, 1, none⟩ = some (.int .i64 x154001_2) := (blk_cell BK154.out 1).trans rfl
                              have hcz83_2 : w67.cell? ⟨gb154, 2, none⟩ = some (.int .i64 x154002_2) := (blk_cell BK154.out 2).trans rfl
                              have hfz83_0 := blk_frozen BK154.out 0
                              have hfz83_1 := blk_frozen BK154.out 1
                              have hfz83_2 := blk_frozen BK154.out 2
                              have hcz84_0 : w67.cell? ⟨gb153, 0, none⟩ = some (.int .i64 x154000_2) := (blk_cell BK153.out 0).trans rfl
                              have hcz84_1 : w67.cell? ⟨gb153, 1, none⟩ = some (.int .i64 x154001_2) := (blk_cell BK153.out 1).trans rfl
                              have hcz84_2 : w67.cell? ⟨gb153, 2, none⟩ = some (.int .i64 x154002_2) := (blk_cell BK153.out 2).trans rfl
                              have hfz84_0 := blk_frozen BK153.out 0
                              have hfz84_1 := blk_frozen BK153.out 1
                              have hfz84_2 := blk_frozen BK153.out 2
                              go_wp2
                              go_meet
                              case rel => exact ⟨_, (true), (by first | rfl | (simp; done) | (simp [*]; done)), H', ⟨by have := HJ6.out; have := HK2.out; first | omega | exact Nat.le_refl _⟩, ⟨by (with_reducible repeat (first | refine blk_drewN ?_ _ | refine blk_drew ?_ | refine blk_alloc ?_ _)); refine blk_put (cs := #[.int .i64 t158, .int .i64 t159, .int .i64 x154002_2]) ?_ 2 _ rfl; (with_reducible repeat (first | refine blk_drewN ?_ _ | refine blk_drew ?_ | refine blk_alloc ?_ _)); refine blk_put (cs := #[.int .i64 t158, .int .i64 x154001_2, .int .i64 x154002_2]) ?_ 1 _ rfl; (with_reducible repeat (first | refine blk_drewN ?_ _ | refine blk_drew ?_ | refine blk_alloc ?_ _)); refine blk_put (cs := #[.int .i64 x154000_2, .int .i64 x154001_2, .int .i64 x154002_2]) ?_ 0 _ rfl; (with_reducible repeat (first | refine blk_drewN ?_ _ | refine blk_drew ?_ | refine blk_alloc ?_ _)); exact BK153.out⟩, ⟨by (with_reducible repeat (first | refine blk_drewN ?_ _ | refine blk_drew ?_ | refine blk_alloc ?_ _)); refine blk_far ?_ NB154_153.out _; (with_reducible repeat (first | refine blk_drewN ?_ _ | refine blk_drew ?_ | refine blk_alloc ?_ _)); refine blk_far ?_ NB154_153.out _; (with_reducible repeat (first | refine blk_drewN ?_ _ | refine blk_drew ?_ | refine blk_alloc ?_ _)); refine blk_far ?_ NB154_153.out _; (with_reducible repeat (first | refine blk_drewN ?_ _ | refine blk_drew ?_ | refine blk_alloc ?_ _)); exact BK154.out⟩, ⟨by repeat (first | (with_reducible first | exact HB.out | apply below_alloc | apply pw_below_drewN | apply below_drew1 | refine below_set ?_ GE153.out | refine below_set ?_ GE154.out) | exact HB.out)⟩⟩
                        · rw [if_neg c73] at H
                          have c73b0 : (t158 == x8_2) = false := beq_eq_false_iff_ne.mpr c73
                          have c73b1 : (t158 != x8_2) = true := bne_iff_ne.mpr c73
                          have H' := Aside0.mk H
                          clear H
                          have hnb85 := NB154_153.out
                          have hnc85 := NB153_154.out
                          have hcz86_0 : w67.cell? ⟨gb154, 0, none⟩ = some (.int .i64 x154000_2) := (blk_cell BK154.out 0).trans rfl
                          have hcz86_1 : w67.cell? ⟨gb154, 1, none⟩ = some (.int .i64 x154001_2) := (blk_cell BK154.out 1).trans rfl
                          have hcz86_2 : w67.cell? ⟨gb154, 2, none⟩ = some (.int .i64 x154002_2) := (blk_cell BK154.out 2).trans rfl
                          have hfz86_0 := blk_frozen BK154.out 0
                          have hfz86_1 := blk_frozen BK154.out 1
                          have hfz86_2 := blk_frozen BK154.out 2
                          have hcz87_0 : w67.cell? ⟨gb153, 0, none⟩ = some (.int .i64 x154000_2) := (blk_cell BK153.out 0).trans rfl
                          have hcz87_1 : w67.cell? ⟨gb153, 1, none⟩ = some (.int .i64 x154001_2) := (blk_cell BK153.out 1).trans rfl
                          have hcz87_2 : w67.cell? ⟨gb153, 2, none⟩ = some (.int .i64 x154002_2) := (blk_cell BK153.out 2).trans rfl
                          have hfz87_0 := blk_frozen BK153.out 0
                          have hfz87_1 := blk_frozen BK153.out 1
                          have hfz87_2 := blk_frozen BK153.out 2
                          go_wp2
                          go_meet
                          case rel => exact ⟨_, (true), (by first | rfl | (simp; done) | (simp [*]; done)), H', ⟨by have := HJ6.out; have := HK2.out; first | omega | exact Nat.le_refl _⟩, ⟨by (with_reducible repeat (first | refine blk_drewN ?_ _ | refine blk_drew ?_ | refine blk_alloc ?_ _)); refine blk_put (cs := #[.int .i64 t158, .int .i64 t159, .int .i64 x154002_2]) ?_ 2 _ rfl; (with_reducible repeat (first | refine blk_drewN ?_ _ | refine blk_drew ?_ | refine blk_alloc ?_ _)); refine blk_put (cs := #[.int .i64 t158, .int .i64 x154001_2, .int .i64 x154002_2]) ?_ 1 _ rfl; (with_reducible repeat (first | refine blk_drewN ?_ _ | refine blk_drew ?_ | refine blk_alloc ?_ _)); refine blk_put (cs := #[.int .i64 x154000_2, .int .i64 x154001_2, .int .i64 x154002_2]) ?_ 0 _ rfl; (with_reducible repeat (first | refine blk_drewN ?_ _ | refine blk_drew ?_ | refine blk_alloc ?_ _)); exact BK153.out⟩, ⟨by (with_reducible repeat (first | refine blk_drewN ?_ _ | refine blk_drew ?_ | refine blk_alloc ?_ _)); refine blk_far ?_ NB154_153.out _; (with_reducible repeat (first | refine blk_drewN ?_ _ | refine blk_drew ?_ | refine blk_alloc ?_ _)); refine blk_far ?_ NB154_153.out _; (with_reducible repeat (first | refine blk_drewN ?_ _ | refine blk_drew ?_ | refine blk_alloc ?_ _)); refine blk_far ?_ NB154_153.out _; (with_reducible repeat (first | refine blk_drewN ?_ _ | refine blk_drew ?_ | refine blk_alloc ?_ _)); exact BK154.out⟩, ⟨by repeat (first | (with_reducible first | exact HB.out | apply below_alloc | apply pw_below_drewN | apply below_drew1 | refine below_set ?_ GE153.out | refine below_set ?_ GE154.out) | exact HB.out)⟩⟩
                      · rw [if_neg c72] at H
                        have c72b0 : (x154000_2 == 0) = false := beq_eq_false_iff_ne.mpr c72
                        have c72b1 : (x154000_2 != 0) = true := bne_iff_ne.mpr c72
                        (first | rw [c72b0] | (simp only [i64_w, i32_w]; rw [c72b0]) | skip)
                        have H' := Aside0.mk H
                        clear H
                        have hnb88 := NB154_153.out
                        have hnc88 := NB153_154.out
                        have hcz89_0 : w67.cell? ⟨gb154, 0, none⟩ = some (.int .i64 x154000_2) := (blk_cell BK154.out 0).trans rfl
                        have hcz89_1 : w67.cell? ⟨gb154, 1, none⟩ = some (.int .i64 x154001_2) := (blk_cell BK154.out 1).trans rfl
                        have hcz89_2 : w67.cell? ⟨gb154, 2, none⟩ = some (.int .i64 x154002_2) := (blk_cell BK154.out 2).trans rfl
                        have hfz89_0 := blk_frozen BK154.out 0
                        have hfz89_1 := blk_frozen BK154.out 1
                        have hfz89_2 := blk_frozen BK154.out 2
                        have hcz90_0 : w67.cell? ⟨gb153, 0, none⟩ = some (.int .i64 x154000_2) := (blk_cell BK153.out 0).trans rfl
                        have hcz90_1 : w67.cell? ⟨gb153, 1, none⟩ = some (.int .i64 x154001_2) := (blk_cell BK153.out 1).trans rfl
                        have hcz90_2 : w67.cell? ⟨gb153, 2, none⟩ = some (.int .i64 x154002_2) := (blk_cell BK153.out 2).trans rfl
                        have hfz90_0 := blk_frozen BK153.out 0
                        have hfz90_1 := blk_frozen BK153.out 1
                        have hfz90_2 := blk_frozen BK153.out 2
                        go_wp2
                        go_meet
                        case rel => exact ⟨_, ((!(t158 == x154000_2) || (!(t159 == x154001_2) || (!(t160 == x154002_2))))), (by first | rfl | (simp; done) | (simp [*]; done)), H', ⟨by have := HJ6.out; have := HK2.out; first | omega | exact Nat.le_refl _⟩, ⟨by (with_reducible repeat (first | refine blk_drewN ?_ _ | refine blk_drew ?_ | refine blk_alloc ?_ _)); refine blk_put (cs := #[.int .i64 t158, .int .i64 t159, .int .i64 x154002_2]) ?_ 2 _ rfl; (with_reducible repeat (first | refine blk_drewN ?_ _ | refine blk_drew ?_ | refine blk_alloc ?_ _)); refine blk_put (cs := #[.int .i64 t158, .int .i64 x154001_2, .int .i64 x154002_2]) ?_ 1 _ rfl; (with_reducible repeat (first | refine blk_drewN ?_ _ | refine blk_drew ?_ | refine blk_alloc ?_ _)); refine blk_put (cs := #[.int .i64 x154000_2, .int .i64 x154001_2, .int .i64 x154002_2]) ?_ 0 _ rfl; (with_reducible repeat (first | refine blk_drewN ?_ _ | refine blk_drew ?_ | refine blk_alloc ?_ _)); exact BK153.out⟩, ⟨by (with_reducible repeat (first | refine blk_drewN ?_ _ | refine blk_drew ?_ | refine blk_alloc ?_ _)); refine blk_far ?_ NB154_153.out _; (with_reducible repeat (first | refine blk_drewN ?_ _ | refine blk_drew ?_ | refine blk_alloc ?_ _)); refine blk_far ?_ NB154_153.out _; (with_reducible repeat (first | refine blk_drewN ?_ _ | refine blk_drew ?_ | refine blk_alloc ?_ _)); refine blk_far ?_ NB154_153.out _; (with_reducible repeat (first | refine blk_drewN ?_ _ | refine blk_drew ?_ | refine blk_alloc ?_ _)); exact BK154.out⟩, ⟨by repeat (first | (with_reducible first | exact HB.out | apply below_alloc | apply pw_below_drewN | apply below_drew1 | refine below_set ?_ GE153.out | refine below_set ?_ GE154.out) | exact HB.out)⟩⟩
                    case rest =>
                      clear HC60
                      try clear c1
                      try clear p1
                      try clear q1
                      try clear hx1
                      try clear p2
                      try clear c3
                      try clear q3
                      try clear c4
                      try clear c5
                      try clear c6
                      try clear p6
                      try clear c7
                      try clear c8
                      try clear c10
                      try clear c13
                      try clear p15
                      try clear q15
                      try clear hx15
                      try clear p16
                      try clear q16
                      try clear hx16
                      try clear c17
                      try clear c17b0
                      try clear c17b1
                      try clear q33
                      try clear c34
                      try clear c35
                      try clear c35b0
                      try clear c35b1
                      try clear c44
                      try clear c45
                      try clear c45b0
                      try clear c46
                      try clear c46b0
                      try clear c49
                      try clear c51
                      try clear c51b0
                      try clear c53
                      try clear c53b0
                      try clear c53b1
                      try clear c54
                      try clear c57
                      try clear c63
                      try clear p64
                      try clear c72
                      try clear c72b0
                      try clear c72b1
                      try clear c73
                      try clear c73b0
                      try clear c73b1
                      try clear c74
                      try clear c74b0
                      try clear c74b1
                      try clear c75
                      try clear c78
                      try clear c78b0
                      try clear c78b1
                      try clear c79
                      try clear c82
                      try clear c85
                      try clear c88
                      try clear hcz50_0
                      try clear hcz50_1
                      try clear hcz50_2
                      try clear hcz55_0
                      try clear hcz55_1
                      try clear hcz55_2
                      try clear hcz58_0
                      try clear hcz58_1
                      try clear hcz58_2
                      try clear hcz61_0
                      try clear hcz61_1
                      try clear hcz61_2
                      try clear hcz64_0
                      try clear hcz64_1
                      try clear hcz64_2
                      try clear hcz71_0
                      try clear hcz71_1
                      try clear hcz71_2
                      try clear hcz76_0
                      try clear hcz76_1
                      try clear hcz76_2
                      try clear hcz77_0
                      try clear hcz77_1
                      try clear hcz77_2
                      try clear hcz80_0
                      try clear hcz80_1
                      try clear hcz80_2
                      try clear hcz81_0
                      try clear hcz81_1
                      try clear hcz81_2
                      try clear hcz83_0
                      try clear hcz83_1
                      try clear hcz83_2
                      try clear hcz84_0
                      try clear hcz84_1
                      try clear hcz84_2
                      try clear hcz86_0
                      try clear hcz86_1
                      try clear hcz86_2
                      try clear hcz87_0
                      try clear hcz87_1
                      try clear hcz87_2
                      try clear hcz89_0
                      try clear hcz89_1
                      try clear hcz89_2
                      try clear hcz90_0
                      try clear hcz90_1
                      try clear hcz90_2
                      try clear hfz50_0
                      try clear hfz50_1
                      try clear hfz50_2
                      try clear hfz55_0
                      try clear hfz55_1
                      try clear hfz55_2
                      try clear hfz58_0
                      try clear hfz58_1
                      try clear hfz58_2
                      try clear hfz61_0
                      try clear hfz61_1
                      try clear hfz61_2
                      try clear hfz64_0
                      try clear hfz64_1
                      try clear hfz64_2
                      try clear hfz71_0
                      try clear hfz71_1
                      try clear hfz71_2
                      try clear hfz76_0
                      try clear hfz76_1
                      try clear hfz76_2
                      try clear hfz77_0
                      try clear hfz77_1
                      try clear hfz77_2
                      try clear hfz80_0
                      try clear hfz80_1
                      try clear hfz80_2
                      try clear hfz81_0
                      try clear hfz81_1
                      try clear hfz81_2
                      try clear hfz83_0
                      try clear hfz83_1
                      try clear hfz83_2
                      try clear hfz84_0
                      try clear hfz84_1
                      try clear hfz84_2
                      try clear hfz86_0
                      try clear hfz86_1
                      try clear hfz86_2
                      try clear hfz87_0
                      try clear hfz87_1
                      try clear hfz87_2
                      try clear hfz89_0
                      try clear hfz89_1
                      try clear hfz89_2
                      try clear hfz90_0
                      try clear hfz90_1
                      try clear hfz90_2
                      try clear hx155_0
                      try clear hx155_1
                      try clear hx155_2
                      try clear hx156_0
                      try clear hx156_1
                      try clear hx156_2
                      try clear hx157_0
                      try clear hx157_1
                      try clear hx157_2
                      try clear hx161_0
                      try clear hx161_1
                      try clear hx161_2
                      try clear hx162_0
                      try clear hx162_1
                      try clear hx162_2
                      try clear hx164_0
                      try clear hx164_1
                      try clear hx164_2
                      try clear hx165_0
                      try clear hx165_1
                      try clear hx165_2
                      try clear p1
                      try clear p155
                      try clear p156
                      try clear p157
                      try clear p16
                      try clear p161
                      try clear p162
                      try clear p164
                      try clear p165
                      try clear p2
                      try clear q1
                      try clear q155
                      try clear q156
                      try clear q157
                      try clear q16
                      try clear q161
                      try clear q162
                      try clear q164
                      try clear q165
                      try clear q3
                      try clear q33
                      obtain ⟨kq, x130_59, rfl, HA, HJ59, BK153, BK154, HB⟩ := hcut
                      cases kq with
                      | zero => exact absurd HA.out (by simp [paternosterlaw10_FeedGoes.j4])
                      | succ kj59 =>
                        have H := HA.out
                        clear HA
                        simp only [paternosterlaw10_FeedGoes.j4] at H
                        by_cases c91 : x130_59 = true
                        · subst c91
                          have H1 : (some false) = some r := by rw [if_pos rfl] at H; exact H
                          clear H
                          have H := H1
                          clear H1
                          obtain rfl := Option.some.inj H
                          go_wp2
                          go_ret
                          exact ⟨by first | rfl | (simp [errW_none, errW_some] <;> rfl) | (simp [*, errW_none, errW_some] <;> rfl), by repeat (first | (with_reducible first | exact HB.out | apply below_alloc | apply pw_below_drewN | apply below_drew1 | refine below_set ?_ GE153.out | refine below_set ?_ GE154.out) | exact HB.out)⟩
                        · replace c91 := Bool.eq_false_iff.mpr c91
                          subst c91
                          have H1 : (paternosterlaw10_FeedGoes.l0 kj59 l0 x7_2 x8_2 x9_2 x10_2 (wrap64 (x11_2 + 1)) t158 t159 t160) = some r := by rw [if_neg (show ¬ (false = true) by decide)] at H; exact H
                          clear H
                          have H := H1
                          clear H1
                          have H' := Aside0.mk H
                          clear H
                          go_wp2
                          go_roundg kj59
                          case measure => have := HJ6.out; have := HK2.out; have := HJ59.out; omega
                          case rel => exact ⟨(x7_2), (x8_2), (x9_2), (x10_2), (wrap64 (x11_2 + 1)), (t158), (t159), (t160), (by first | rfl | (simp; done) | (simp [*]; done)), (by first | rfl | (simp; done) | (simp [*]; done)), (by first | rfl | (simp; done) | (simp [*]; done)), (by first | rfl | (simp; done) | (simp [*]; done)), (by first | rfl | (simp; done) | (simp [*]; done)), H', ⟨by have := HJ6.out; have := HK2.out; have := HJ59.out; omega⟩, ⟨by (with_reducible repeat (first | refine blk_drewN ?_ _ | refine blk_drew ?_ | refine blk_alloc ?_ _)); exact BK153.out⟩, ⟨by repeat (first | (with_reducible first | exact HB.out | apply below_alloc | apply pw_below_drewN | apply below_drew1 | refine below_set ?_ GE153.out | refine below_set ?_ GE154.out) | exact HB.out)⟩⟩
                · rw [if_neg c15] at H
                  exact absurd H (by simp)
              · rw [if_neg c14] at H
                have c14b0 : decide (x11_2 < (l0.length : Int)) = false := decide_eq_false c14
                clear c14
                obtain rfl := Option.some.inj H
                go_wp2
                go_ret
                exact ⟨by first | rfl | (simp [errW_none, errW_some] <;> rfl) | (simp [*, errW_none, errW_some] <;> rfl), by repeat (first | (with_reducible first | exact HB.out | apply below_alloc | apply pw_below_drewN | apply below_drew1 | refine below_set ?_ GE153.out) | exact HB.out)⟩
  · replace c4 := Bool.eq_false_iff.mpr c4
    subst c4
    have H1 : (some false) = some r := by rw [if_neg (show ¬ (false = true) by decide)] at H; exact H
    clear H
    have H := H1
    clear H1
    obtain rfl := Option.some.inj H
    go_enter Try.func5, Try.ntmps5
    go_wp2_with (first | ((with_reducible refine gate_callee (f := 9) rfl ?_); refine goesL_ (some 13) rfl rfl Try.func9 (by kernel_rfl) rfl #[] rfl (by (try simp only [List.map_toArray, List.map_cons, List.map_nil]); first | done | rfl | (simp only [List.length_drop, List.length_take]; rfl)) ?_; (with_reducible refine (paternosterlaw10_awake.calls  false _ A3.out).mono ?_); rintro e w92 ⟨rfl, hb⟩; refine ⟨_, rfl, ?_⟩; have n0_ := Aside0.mk (below_step (by repeat (first | (with_reducible first | exact HB.out | apply below_alloc | apply pw_below_drewN | apply below_drew1) | exact HB.out)) hb); clear HB; have HB := n0_; clear n0_; (try clear hb); (try clear hb2); (try clear hk); (try clear hi)))
    go_ret
    exact ⟨by first | rfl | (simp [errW_none, errW_some] <;> rfl) | (simp [*, errW_none, errW_some] <;> rfl), by repeat (first | (with_reducible first | exact HB.out | apply below_alloc | apply pw_below_drewN | apply below_drew1) | exact HB.out)⟩

end Go.Proofs.Ytangjedacimmcaa.X
