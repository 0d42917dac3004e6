-- Written by a program of this session (wip/xprint/xprint.py runs the kit's print with hand-proved externs).
import Derived.Test.YtbaklgemdljmeaaDoorLaid
import Derived.Test.YtbaklgemdljmeaaDoorXx0
import Derived.Test.YtbaklgemdljmeaaDoorXx1
import Derived.Test.YtbaklgemdljmeaaDoorXx4
import Derived.Test.YtbaklgemdljmeaaDoorXx5
import Derived.Test.YtbaklgemdljmeaaDoorTurnStep
namespace Go.Proofs.YtbaklgemdljmeaaDoor.X
open Go.RowKit Go.Proofs.YtbaklgemdljmeaaDoorW.PrintWords Go.Proofs.YtbaklgemdljmeaaDoorW.PrintLast Go.Proofs.YtbaklgemdljmeaaDoorW.PrintMore
attribute [local go_sem] max2_int min2_int max_two min_two max_three min_three max_four min_four   -- for this text's walks alone
set_option linter.unusedVariables false
set_option linter.unusedSimpArgs false

attribute [local go_sem high] eqA23
/-! ### paternosterlaw20_TurnReady: function 4 -/
mutual
def paternosterlaw20_TurnReady.l0 : Nat → List (S26) → Int → Int → Int → Int → Option (Bool)
  | 0, _, _, _, _, _ => none
  | k + 1, x0, x6, x8, x163000, x163001 => if x8 < (x0.length : Int) then (if 0 ≤ x8 then ((turn_Turn_Step.f x163000 x163001 ((rd_T26 x0 x8).f0) ((rd_T26 x0 x8).f1) x6).bind fun bt166 => (if ((rd_T26 x0 x8).f0) = 0 then ((turn_None.f).bind fun bt168 => (if (!(bt166.1 == bt168.1) || (!(bt166.2 == bt168.2))) = true then (paternosterlaw20_TurnReady.j1 k x0 x6 x8 true bt166.1 bt166.2 ((rd_T26 x0 x8).f0) ((rd_T26 x0 x8).f1) ((rd_T26 x0 x8).f2) ((rd_T26 x0 x8).f3) x163000 x163001) else (paternosterlaw20_TurnReady.j1 k x0 x6 x8 (decide (bt166.2 > x6)) bt166.1 bt166.2 ((rd_T26 x0 x8).f0) ((rd_T26 x0 x8).f1) ((rd_T26 x0 x8).f2) ((rd_T26 x0 x8).f3) x163000 x163001))) else ((order_Has.f ((rd_T26 x0 x8).f0) bt166.1).bind fun t170 => (if t170 = true then (paternosterlaw20_TurnReady.j1 k x0 x6 x8 (decide (bt166.2 > x6)) bt166.1 bt166.2 ((rd_T26 x0 x8).f0) ((rd_T26 x0 x8).f1) ((rd_T26 x0 x8).f2) ((rd_T26 x0 x8).f3) x163000 x163001) else (paternosterlaw20_TurnReady.j1 k x0 x6 x8 true bt166.1 bt166.2 ((rd_T26 x0 x8).f0) ((rd_T26 x0 x8).f1) ((rd_T26 x0 x8).f2) ((rd_T26 x0 x8).f3) x163000 x163001))))) else (none)) else (some true)
def paternosterlaw20_TurnReady.j1 : Nat → List (S26) → Int → Int → Bool → Int → Int → Int → Bool → Bool → Int → Int → Int → Option (Bool)
  | 0, _, _, _, _, _, _, _, _, _, _, _, _ => none
  | k + 1, x0, x6, x8, x68, x163000, x163001, x165000, x165001, x165002, x165003, x166000, x166001 => if x68 = true then (some false) else (if x165001 = true then ((order_Has.f x165000 x166000).bind fun t171 => (if t171 = true then (paternosterlaw20_TurnReady.j2 k x0 x6 x8 (!(x163000 == x166000) || (!(x163001 == x166001))) x163000 x163001 x165000 x165001 x165002 x165003) else (paternosterlaw20_TurnReady.j2 k x0 x6 x8 false x163000 x163001 x165000 x165001 x165002 x165003))) else (paternosterlaw20_TurnReady.j2 k x0 x6 x8 false x163000 x163001 x165000 x165001 x165002 x165003))
def paternosterlaw20_TurnReady.j2 : Nat → List (S26) → Int → Int → Bool → Int → Int → Int → Bool → Bool → Int → Option (Bool)
  | 0, _, _, _, _, _, _, _, _, _, _ => none
  | k + 1, x0, x6, x8, x82, x163000, x163001, x165000, x165001, x165002, x165003 => if x82 = true then (some false) else (if x165002 = true then ((turn_Turn_Pick.f x163000 x163001 x165003 x165000 x165001 x6).bind fun bt172 => (if x165001 = true then (if (bt172.2.2 != false) = true then (some false) else (if bt172.2.2 = true then (if bt172.1 = x165003 then (if bt172.2.1 = x6 then (paternosterlaw20_TurnReady.l0 k x0 x6 (wrap64 (x8 + 1)) bt172.1 bt172.2.1) else (some false)) else (some false)) else (if (!(bt172.1 == x163000) || (!(bt172.2.1 == x163001))) = true then (some false) else (paternosterlaw20_TurnReady.l0 k x0 x6 (wrap64 (x8 + 1)) bt172.1 bt172.2.1)))) else ((order_Has.f x165000 x165003).bind fun t176 => (if (bt172.2.2 != t176) = true then (some false) else (if bt172.2.2 = true then (if bt172.1 = x165003 then (if bt172.2.1 = x6 then (paternosterlaw20_TurnReady.l0 k x0 x6 (wrap64 (x8 + 1)) bt172.1 bt172.2.1) else (some false)) else (some false)) else (if (!(bt172.1 == x163000) || (!(bt172.2.1 == x163001))) = true then (some false) else (paternosterlaw20_TurnReady.l0 k x0 x6 (wrap64 (x8 + 1)) bt172.1 bt172.2.1))))))) else (paternosterlaw20_TurnReady.l0 k x0 x6 (wrap64 (x8 + 1)) x163000 x163001))
end
def paternosterlaw20_TurnReady.f (k : Nat) (l0 : List (S26)) (a1 : Int) : Option (Bool) := (paternosterlaw20_awake.f).bind fun t159 => (if t159 = true then (if (l0.length : Int) > 200 then (some true) else ((turn_None.f).bind fun bt160 => (paternosterlaw20_TurnReady.l0 k l0 (wrap64 ((wrap64 (Int.tmod a1 20)) + 1)) 0 bt160.1 bt160.2))) else (some false))
theorem paternosterlaw20_TurnReady.mono_l : ∀ k, (∀ y0 y1 y2 y3 y4, LeO (paternosterlaw20_TurnReady.l0 k y0 y1 y2 y3 y4) (paternosterlaw20_TurnReady.l0 (k + 1) y0 y1 y2 y3 y4)) ∧ (∀ y0 y1 y2 y3 y4 y5 y6 y7 y8 y9 y10 y11, LeO (paternosterlaw20_TurnReady.j1 k y0 y1 y2 y3 y4 y5 y6 y7 y8 y9 y10 y11) (paternosterlaw20_TurnReady.j1 (k + 1) y0 y1 y2 y3 y4 y5 y6 y7 y8 y9 y10 y11)) ∧ (∀ y0 y1 y2 y3 y4 y5 y6 y7 y8 y9, LeO (paternosterlaw20_TurnReady.j2 k y0 y1 y2 y3 y4 y5 y6 y7 y8 y9) (paternosterlaw20_TurnReady.j2 (k + 1) y0 y1 y2 y3 y4 y5 y6 y7 y8 y9))
  | 0 => ⟨fun _ _ _ _ _ r h => by simp [paternosterlaw20_TurnReady.l0] at h, fun _ _ _ _ _ _ _ _ _ _ _ _ r h => by simp [paternosterlaw20_TurnReady.j1] at h, fun _ _ _ _ _ _ _ _ _ _ r h => by simp [paternosterlaw20_TurnReady.j2] at h⟩
  | k + 1 => by
    obtain ⟨ih0, ih1, ih2⟩ := paternosterlaw20_TurnReady.mono_l k
    refine ⟨?_, ?_, ?_⟩
    · intro y0 y1 y2 y3 y4
      unfold paternosterlaw20_TurnReady.l0
      repeat' first
      | (with_reducible exact ih0 _ _ _ _ _)
      | (with_reducible exact ih1 _ _ _ _ _ _ _ _ _ _ _ _)
      | (with_reducible exact ih2 _ _ _ _ _ _ _ _ _ _)
      | (with_reducible exact LeO.refl _)
      | (with_reducible exact LeO.none _)
      | (with_reducible refine LeO.ite ?_ ?_)
      | (with_reducible refine LeO.bind ?_ (fun _ => ?_))
      | exact ih0 _ _ _ _ _
      | exact ih1 _ _ _ _ _ _ _ _ _ _ _ _
      | exact ih2 _ _ _ _ _ _ _ _ _ _
      | exact LeO.none _
      | refine LeO.ite ?_ ?_
      | refine LeO.bind ?_ (fun _ => ?_)
    · intro y0 y1 y2 y3 y4 y5 y6 y7 y8 y9 y10 y11
      unfold paternosterlaw20_TurnReady.j1
      repeat' first
      | (with_reducible exact ih0 _ _ _ _ _)
      | (with_reducible exact ih1 _ _ _ _ _ _ _ _ _ _ _ _)
      | (with_reducible exact ih2 _ _ _ _ _ _ _ _ _ _)
      | (with_reducible exact LeO.refl _)
      | (with_reducible exact LeO.none _)
      | (with_reducible refine LeO.ite ?_ ?_)
      | (with_reducible refine LeO.bind ?_ (fun _ => ?_))
      | exact ih0 _ _ _ _ _
      | exact ih1 _ _ _ _ _ _ _ _ _ _ _ _
      | exact ih2 _ _ _ _ _ _ _ _ _ _
      | exact LeO.none _
      | refine LeO.ite ?_ ?_
      | refine LeO.bind ?_ (fun _ => ?_)
    · intro y0 y1 y2 y3 y4 y5 y6 y7 y8 y9
      unfold paternosterlaw20_TurnReady.j2
      repeat' first
      | (with_reducible exact ih0 _ _ _ _ _)
      | (with_reducible exact ih1 _ _ _ _ _ _ _ _ _ _ _ _)
      | (with_reducible exact ih2 _ _ _ _ _ _ _ _ _ _)
      | (with_reducible exact LeO.refl _)
      | (with_reducible exact LeO.none _)
      | (with_reducible refine LeO.ite ?_ ?_)
      | (with_reducible refine LeO.bind ?_ (fun _ => ?_))
      | exact ih0 _ _ _ _ _
      | exact ih1 _ _ _ _ _ _ _ _ _ _ _ _
      | exact ih2 _ _ _ _ _ _ _ _ _ _
      | exact LeO.none _
      | refine LeO.ite ?_ ?_
      | refine LeO.bind ?_ (fun _ => ?_)
theorem paternosterlaw20_TurnReady.mono : ∀ a0 a1 k, LeO (paternosterlaw20_TurnReady.f k a0 a1) (paternosterlaw20_TurnReady.f (k + 1) a0 a1) := by
  intro a0 a1 k
  obtain ⟨ih0, ih1, ih2⟩ := paternosterlaw20_TurnReady.mono_l k
  unfold paternosterlaw20_TurnReady.f
  repeat' first
      | (with_reducible exact ih0 _ _ _ _ _)
      | (with_reducible exact ih1 _ _ _ _ _ _ _ _ _ _ _ _)
      | (with_reducible exact ih2 _ _ _ _ _ _ _ _ _ _)
      | (with_reducible exact LeO.refl _)
      | (with_reducible exact LeO.none _)
      | (with_reducible refine LeO.ite ?_ ?_)
      | (with_reducible refine LeO.bind ?_ (fun _ => ?_))
      | exact ih0 _ _ _ _ _
      | exact ih1 _ _ _ _ _ _ _ _ _ _ _ _
      | exact ih2 _ _ _ _ _ _ _ _ _ _
      | exact LeO.none _
      | refine LeO.ite ?_ ?_
      | refine LeO.bind ?_ (fun _ => ?_)
def paternosterlaw20_TurnReady.T14 : Bool × List (List Nat × List Nat) := (true, [([], []), ([0], [0]), ([1], [1]), ([2], [2]), ([3], [3]), ([3, 3], [3]), ([4, 5, 3], [3, 4, 5]), ([3, 6], [3, 6]), ([7, 5], [7]), ([8], [8]), ([9, 8], [8, 9]), ([10, 8], [8, 10]), ([11, 8, 8], [8, 11]), ([12], [12]), ([13, 12], [12, 13]), ([12], [12]), ([15, 12], [12, 15]), ([14, 16, 12, 12], [12, 14, 16]), ([17, 12], [12, 17]), ([12, 18, 8], [8, 12, 18]), ([8, 19], [8, 19]), ([20, 17], [20]), ([21], [21]), ([22, 21], [21, 22]), ([21], [21]), ([23, 24, 21], [21, 23, 24]), ([21, 25], [21, 25])])
def paternosterlaw20_TurnReady.B14 : List Nat := [0, 1, 3, 7, 15, 15, 63, 127, 255, 511, 1023, 2047, 4095, 8191, 16383, 8191, 40959, 131071, 262143, 524287, 1048575, 2097151, 4194303, 8388607, 4194303, 33554431, 67108863]
theorem paternosterlaw20_TurnReady.tab14 : rtab .any (opsOf Tryd.f4 14) = paternosterlaw20_TurnReady.T14 := by kernel_rfl
theorem paternosterlaw20_TurnReady.bits14 : waitsOk paternosterlaw20_TurnReady.T14.2 paternosterlaw20_TurnReady.B14 = true := by kernel_rfl
set_option maxHeartbeats 8000000 in
set_option maxRecDepth 100000 in
theorem paternosterlaw20_TurnReady.calls (k : Nat) (A0 : Option Addr) (c0 : Nat) (l0 : List (S26)) (a1 : Int) (r : Bool) (w : World) (hr0 : Kd.C k26 w A0 l0.length l0) (hc0 : l0.length ≤ c0) (h : paternosterlaw20_TurnReady.f k l0 a1 = some r) (LA0 : Laid w) :
    Calls Tryd.prog 4 #[.slice A0 l0.length c0, .int .u8 a1] w fun e w' => e = .returned (.bool r) ∧ Below w.heap.size w w' := by
  have LA := Aside0.mk LA0
  clear LA0
  have hu23 := Tryd.underlying23
  have hu26 := Tryd.underlying26
  have HR0 := Aside0.mk hr0
  have HC0 := Aside0.mk hc0
  clear hr0 hc0
  have HB := Aside0.mk (Below.refl w.heap.size w)
  have H : ((paternosterlaw20_awake.f).bind fun t159 => (if t159 = true then (if (l0.length : Int) > 200 then (some true) else ((turn_None.f).bind fun bt160 => (paternosterlaw20_TurnReady.l0 k l0 (wrap64 ((wrap64 (Int.tmod a1 20)) + 1)) 0 bt160.1 bt160.2))) else (some false))) = some r := h
  clear h
  replace H := Option.bind_eq_some_iff.mp H
  obtain ⟨t159, A30, H⟩ := H
  replace H : (if t159 = true then (if (l0.length : Int) > 200 then (some true) else ((turn_None.f).bind fun bt160 => (paternosterlaw20_TurnReady.l0 k l0 (wrap64 ((wrap64 (Int.tmod a1 20)) + 1)) 0 bt160.1 bt160.2))) else (some false)) = some r := H
  have A3 := Aside0.mk A30
  clear A30
  by_cases c4 : t159 = true
  · subst c4
    have H1 : (if (l0.length : Int) > 200 then (some true) else ((turn_None.f).bind fun bt160 => (paternosterlaw20_TurnReady.l0 k l0 (wrap64 ((wrap64 (Int.tmod a1 20)) + 1)) 0 bt160.1 bt160.2))) = some r := by rw [if_pos rfl] at H; exact H
    clear H
    have H := H1
    clear H1
    by_cases c5 : (l0.length : Int) > 200
    · rw [if_pos c5] at H
      have c5b0 : decide (200 < (l0.length : Int)) = true := decide_eq_true c5
      have c5b1 : decide (200 < l0.length) = true := decide_eq_true (by omega)
      clear c5
      obtain rfl := Option.some.inj H
      go_enter Tryd.func4, Tryd.ntmps4
      go_wp2_with (first | ((with_reducible refine gate_callee (f := 7) rfl ?_); refine goesL_ (some 13) rfl rfl Tryd.func7 (by kernel_rfl) rfl #[] rfl (by (try simp only [List.map_toArray, List.map_cons, List.map_nil]); first | done | rfl | (simp only [List.length_drop, List.length_take]; rfl)) ?_; (with_reducible refine (paternosterlaw20_awake.calls  true _ A3.out ?sideL).mono ?_); (case sideL => exact laid_below LA.out (by repeat (first | (with_reducible first | exact HB.out | apply below_alloc | apply pw_below_drewN | apply below_drew1) | exact HB.out))); rintro e w6 ⟨rfl, hb⟩; refine ⟨_, rfl, ?_⟩; have n0_ := Aside0.mk (below_step (by repeat (first | (with_reducible first | exact HB.out | apply below_alloc | apply pw_below_drewN | apply below_drew1) | exact HB.out)) hb); clear HB; have HB := n0_; clear n0_; (try clear hb); (try clear hb2); (try clear hk); (try clear hi)))
      go_ret
      exact ⟨by first | rfl | (simp [errW_none, errW_some] <;> rfl) | (simp [*, errW_none, errW_some] <;> rfl), by repeat (first | (with_reducible first | exact HB.out | apply below_alloc | apply pw_below_drewN | apply below_drew1) | exact HB.out)⟩
    · rw [if_neg c5] at H
      have c5b0 : decide (200 < (l0.length : Int)) = false := decide_eq_false c5
      have c5b1 : decide (200 < l0.length) = false := decide_eq_false (by omega)
      clear c5
      replace H := Option.bind_eq_some_iff.mp H
      obtain ⟨⟨t160, t161⟩, A70, H⟩ := H
      replace H : (paternosterlaw20_TurnReady.l0 k l0 (wrap64 ((wrap64 (Int.tmod a1 20)) + 1)) 0 t160 t161) = some r := H
      have A7 := Aside0.mk A70
      clear A70
      have H' := Aside0.mk H
      clear H
      go_enter Tryd.func4, Tryd.ntmps4
      go_wp2_with (first | ((with_reducible refine gate_callee (f := 7) rfl ?_); refine goesL_ (some 13) rfl rfl Tryd.func7 (by kernel_rfl) rfl #[] rfl (by (try simp only [List.map_toArray, List.map_cons, List.map_nil]); first | done | rfl | (simp only [List.length_drop, List.length_take]; rfl)) ?_; (with_reducible refine (paternosterlaw20_awake.calls  true _ A3.out ?sideL).mono ?_); (case sideL => exact laid_below LA.out (by repeat (first | (with_reducible first | exact HB.out | apply below_alloc | apply pw_below_drewN | apply below_drew1) | exact HB.out))); rintro e w8 ⟨rfl, hb⟩; refine ⟨_, rfl, ?_⟩; have n0_ := Aside0.mk (below_step (by repeat (first | (with_reducible first | exact HB.out | apply below_alloc | apply pw_below_drewN | apply below_drew1) | exact HB.out)) hb); clear HB; have HB := n0_; clear n0_; (try clear hb); (try clear hb2); (try clear hk); (try clear hi)) | ((with_reducible refine gate_callee (f := 12) rfl ?_); refine goesL_ (some 23) rfl rfl Tryd.func12 (by kernel_rfl) rfl #[] rfl (by (try simp only [List.map_toArray, List.map_cons, List.map_nil]); first | done | rfl | (simp only [List.length_drop, List.length_take]; rfl)) ?_; (with_reducible refine (turn_None.calls  t160 t161 _ A7.out).mono ?_); rintro e w9 ⟨rfl, hb⟩; refine ⟨_, rfl, ?_⟩; have n0_ := Aside0.mk (below_step (by repeat (first | (with_reducible first | exact HB.out | apply below_alloc | apply pw_below_drewN | apply below_drew1) | exact HB.out)) hb); clear HB; have HB := n0_; clear n0_; (try clear hb); (try clear hb2); (try clear hk); (try clear hi)) | ((with_reducible refine gate_dst (N := 7) rfl ?_); refine box_event ?hg (N := 7) ?hd (cs := #[.int .i64 0, .int .i64 0]) (t := 23) ?hr ?_; (case hd => rfl); (case hg => rfl); (case hr => first | (go_simp; done) | (go_simp; rfl)); intro gb162 hg w10 hbox hb; have n0_ := Aside0.mk (below_step (by repeat (first | (with_reducible first | exact HB.out | apply below_alloc | apply pw_below_drewN | apply below_drew1) | exact HB.out)) hb); have n1_ := Aside0.mk (hbox); have n2_ := Aside0.mk ((by rw [hg]; exact (below_size (by repeat (first | (with_reducible first | exact HB.out | apply below_alloc | apply pw_below_drewN | apply below_drew1) | exact HB.out))) : w.heap.size ≤ gb162)); have n3_ := Aside0.mk ((by rw [hg]; exact (below_size (by repeat (first | (with_reducible first | exact HB.out | apply below_alloc | apply pw_below_drewN | apply below_drew1) | exact HB.out))) : w.heap.size ≤ gb162)); clear HB; have HB := n0_; have BK162 := n1_; have GW162 := n2_; have GE162 := n3_; clear n0_ n1_ n2_ n3_; clear hb hbox hg; have hcz11_0 : w10.cell? ⟨gb162, 0, none⟩ = some (.int .i64 0) := (blk_cell BK162.out 0).trans rfl; have hcz11_1 : w10.cell? ⟨gb162, 1, none⟩ = some (.int .i64 0) := (blk_cell BK162.out 1).trans rfl; have hfz11_0 := blk_frozen BK162.out 0; have hfz11_1 := blk_frozen BK162.out 1))
      go_loopg [8] k (fun kq v8 w' => ∃ (x8_1 : Int) (x163000_1 : Int) (x163001_1 : Int), v8 = .int .i64 x8_1 ∧ Aside0 (paternosterlaw20_TurnReady.l0 kq l0 (wrap64 ((wrap64 (Int.tmod a1 20)) + 1)) x8_1 x163000_1 x163001_1 = some r) ∧ Aside0 (kq ≤ k) ∧ Aside0 (w'.heap[gb162]? = some (.cells #[.int .i64 x163000_1, .int .i64 x163001_1] 23 (0, 0))) ∧ Aside0 (Below w.heap.size w w'))
      case atStart => exact ⟨(0), (t160), (t161), (by first | rfl | (simp; done) | (simp [*]; done)), H', ⟨Nat.le_refl _⟩, ⟨by (with_reducible repeat (first | refine blk_drewN ?_ _ | refine blk_drew ?_ | refine blk_alloc ?_ _)); refine blk_put (cs := #[.int .i64 t160, .int .i64 0]) ?_ 1 _ rfl; (with_reducible repeat (first | refine blk_drewN ?_ _ | refine blk_drew ?_ | refine blk_alloc ?_ _)); refine blk_put (cs := #[.int .i64 0, .int .i64 0]) ?_ 0 _ rfl; (with_reducible repeat (first | refine blk_drewN ?_ _ | refine blk_drew ?_ | refine blk_alloc ?_ _)); exact BK162.out⟩, ⟨by repeat (first | (with_reducible first | exact HB.out | apply below_alloc | apply pw_below_drewN | apply below_drew1 | refine below_set ?_ GE162.out) | exact HB.out)⟩⟩
      case round =>
        clear H'
        try clear c1
        try clear p2
        try clear c4
        try clear c5
        try clear c5b0
        try clear c5b1
        try clear p6
        try clear c7
        try clear hcz11_0
        try clear hcz11_1
        try clear hfz11_0
        try clear hfz11_1
        obtain ⟨x8_1, x163000_1, x163001_1, rfl, HA, HK1, BK162, HB⟩ := hrel
        cases gk with
        | zero => exact absurd HA.out (by simp [paternosterlaw20_TurnReady.l0])
        | succ k1 =>
          have H := HA.out
          clear HA
          simp only [paternosterlaw20_TurnReady.l0] at H
          by_cases c12 : x8_1 < (l0.length : Int)
          · rw [if_pos c12] at H
            have c12b0 : decide (x8_1 < (l0.length : Int)) = true := decide_eq_true c12
            clear c12
            by_cases c13 : 0 ≤ x8_1
            · rw [if_pos c13] at H
              have c13b0 : decide (0 ≤ x8_1) = true := decide_eq_true c13
              clear c13
              replace H := Option.bind_eq_some_iff.mp H
              obtain ⟨⟨t166, t167⟩, A140, H⟩ := H
              replace H : (if ((rd_T26 l0 x8_1).f0) = 0 then ((turn_None.f).bind fun bt168 => (if (!(t166 == bt168.1) || (!(t167 == bt168.2))) = true then (paternosterlaw20_TurnReady.j1 k1 l0 (wrap64 ((wrap64 (Int.tmod a1 20)) + 1)) x8_1 true t166 t167 ((rd_T26 l0 x8_1).f0) ((rd_T26 l0 x8_1).f1) ((rd_T26 l0 x8_1).f2) ((rd_T26 l0 x8_1).f3) x163000_1 x163001_1) else (paternosterlaw20_TurnReady.j1 k1 l0 (wrap64 ((wrap64 (Int.tmod a1 20)) + 1)) x8_1 (decide (t167 > (wrap64 ((wrap64 (Int.tmod a1 20)) + 1)))) t166 t167 ((rd_T26 l0 x8_1).f0) ((rd_T26 l0 x8_1).f1) ((rd_T26 l0 x8_1).f2) ((rd_T26 l0 x8_1).f3) x163000_1 x163001_1))) else ((order_Has.f ((rd_T26 l0 x8_1).f0) t166).bind fun t170 => (if t170 = true then (paternosterlaw20_TurnReady.j1 k1 l0 (wrap64 ((wrap64 (Int.tmod a1 20)) + 1)) x8_1 (decide (t167 > (wrap64 ((wrap64 (Int.tmod a1 20)) + 1)))) t166 t167 ((rd_T26 l0 x8_1).f0) ((rd_T26 l0 x8_1).f1) ((rd_T26 l0 x8_1).f2) ((rd_T26 l0 x8_1).f3) x163000_1 x163001_1) else (paternosterlaw20_TurnReady.j1 k1 l0 (wrap64 ((wrap64 (Int.tmod a1 20)) + 1)) x8_1 true t166 t167 ((rd_T26 l0 x8_1).f0) ((rd_T26 l0 x8_1).f1) ((rd_T26 l0 x8_1).f2) ((rd_T26 l0 x8_1).f3) x163000_1 x163001_1)))) = some r := H
              have A14 := Aside0.mk A140
              clear A140
              have HC15 := Aside0.mk H
              clear H
              have p163 : 0 ≤ (x8_1 : Int) := of_decide_eq_true (by first | (with_reducible assumption) | assumption)
              have q163 : x8_1 < (l0.length : Int) := of_decide_eq_true (by first | (with_reducible assumption) | assumption)
              obtain ⟨ad163, e163, hx163_0, hx163_1, hx163_2, hx163_3⟩ := at_T26 HR0.out x8_1 p163 q163
              cases e163
              replace hx163_0 := (HB.out.cell (World.block_lt_of_cell? w _ hx163_0)).trans hx163_0
              replace hx163_1 := (HB.out.cell (World.block_lt_of_cell? w _ hx163_1)).trans hx163_1
              replace hx163_2 := (HB.out.cell (World.block_lt_of_cell? w _ hx163_2)).trans hx163_2
              replace hx163_3 := (HB.out.cell (World.block_lt_of_cell? w _ hx163_3)).trans hx163_3
              replace p163 := eq_true p163
              replace q163 := eq_true q163
              go_upto_region 14 with (first | ((with_reducible refine gate_dst (N := 9) rfl ?_); refine box_event ?hg (N := 9) ?hd (cs := #[.int .u64 0, .bool false, .bool false, .int .i64 0]) (t := 26) ?hr ?_; (case hd => rfl); (case hg => rfl); (case hr => first | (go_simp; done) | (go_simp; rfl)); intro gb164 hg w16 hbox hb; have n0_ := Aside0.mk (blk_below (g := gb162) (o := .cells #[.int .i64 x163000_1, .int .i64 x163001_1] 23 (0, 0)) (by (with_reducible repeat (first | refine blk_drewN ?_ _ | refine blk_drew ?_ | refine blk_alloc ?_ _)); exact BK162.out) hb); have n1_ := Aside0.mk (below_step (by repeat (first | (with_reducible first | exact HB.out | apply below_alloc | apply pw_below_drewN | apply below_drew1 | refine below_set ?_ GE162.out) | exact HB.out)) hb); have n2_ := Aside0.mk (hbox); have n3_ := Aside0.mk ((by rw [hg]; exact (below_size (by repeat (first | (with_reducible first | exact HB.out | apply below_alloc | apply pw_below_drewN | apply below_drew1 | refine below_set ?_ GE162.out) | exact HB.out))) : w.heap.size ≤ gb164)); have n4_ := Aside0.mk ((by rw [hg]; exact (below_size (by repeat (first | (with_reducible first | exact HB.out | apply below_alloc | apply pw_below_drewN | apply below_drew1 | refine below_set ?_ GE162.out) | exact HB.out))) : w.heap.size ≤ gb164)); have n5_ := Aside0.mk ((by rw [hg]; exact Nat.ne_of_lt (blk_lt (g := gb162) (o := .cells #[.int .i64 x163000_1, .int .i64 x163001_1] 23 (0, 0)) (by (with_reducible repeat (first | refine blk_drewN ?_ _ | refine blk_drew ?_ | refine blk_alloc ?_ _)); exact BK162.out)) : gb162 ≠ gb164)); have n6_ := Aside0.mk ((by rw [hg]; exact Nat.ne_of_gt (blk_lt (g := gb162) (o := .cells #[.int .i64 x163000_1, .int .i64 x163001_1] 23 (0, 0)) (by (with_reducible repeat (first | refine blk_drewN ?_ _ | refine blk_drew ?_ | refine blk_alloc ?_ _)); exact BK162.out)) : gb164 ≠ gb162)); clear BK162; clear HB; have BK162 := n0_; have HB := n1_; have BK164 := n2_; have GW164 := n3_; have GE164 := n4_; have NB162_164 := n5_; have NB164_162 := n6_; clear n0_ n1_ n2_ n3_ n4_ n5_ n6_; clear hb hbox hg; have hnb17 := NB164_162.out; have hnc17 := NB162_164.out; have hcz18_0 : w16.cell? ⟨gb164, 0, none⟩ = some (.int .u64 0) := (blk_cell BK164.out 0).trans rfl; have hcz18_1 : w16.cell? ⟨gb164, 1, none⟩ = some (.bool false) := (blk_cell BK164.out 1).trans rfl; have hcz18_2 : w16.cell? ⟨gb164, 2, none⟩ = some (.bool false) := (blk_cell BK164.out 2).trans rfl; have hcz18_3 : w16.cell? ⟨gb164, 3, none⟩ = some (.int .i64 0) := (blk_cell BK164.out 3).trans rfl; have hfz18_0 := blk_frozen BK164.out 0; have hfz18_1 := blk_frozen BK164.out 1; have hfz18_2 := blk_frozen BK164.out 2; have hfz18_3 := blk_frozen BK164.out 3; have hcz19_0 : w16.cell? ⟨gb162, 0, none⟩ = some (.int .i64 x163000_1) := (blk_cell BK162.out 0).trans rfl; have hcz19_1 : w16.cell? ⟨gb162, 1, none⟩ = some (.int .i64 x163001_1) := (blk_cell BK162.out 1).trans rfl; have hfz19_0 := blk_frozen BK162.out 0; have hfz19_1 := blk_frozen BK162.out 1) | ((with_reducible refine gate_dst (N := 10) rfl ?_); refine box_event ?hg (N := 10) ?hd (cs := #[.int .i64 0, .int .i64 0]) (t := 23) ?hr ?_; (case hd => rfl); (case hg => rfl); (case hr => first | (go_simp; done) | (go_simp; rfl)); intro gb165 hg w20 hbox hb; have n0_ := Aside0.mk (blk_below (g := gb162) (o := .cells #[.int .i64 x163000_1, .int .i64 x163001_1] 23 (0, 0)) (by (with_reducible repeat (first | refine blk_drewN ?_ _ | refine blk_drew ?_ | refine blk_alloc ?_ _)); refine blk_far ?_ NB162_164.out _; (with_reducible repeat (first | refine blk_drewN ?_ _ | refine blk_drew ?_ | refine blk_alloc ?_ _)); refine blk_far ?_ NB162_164.out _; (with_reducible repeat (first | refine blk_drewN ?_ _ | refine blk_drew ?_ | refine blk_alloc ?_ _)); refine blk_far ?_ NB162_164.out _; (with_reducible repeat (first | refine blk_drewN ?_ _ | refine blk_drew ?_ | refine blk_alloc ?_ _)); refine blk_far ?_ NB162_164.out _; (with_reducible repeat (first | refine blk_drewN ?_ _ | refine blk_drew ?_ | refine blk_alloc ?_ _)); exact BK162.out) hb); have n1_ := Aside0.mk (blk_below (g := gb164) (o := .cells #[.int .u64 ((rd_T26 l0 x8_1).f0), .bool ((rd_T26 l0 x8_1).f1), .bool ((rd_T26 l0 x8_1).f2), .int .i64 ((rd_T26 l0 x8_1).f3)] 26 (0, 0)) (by (with_reducible repeat (first | refine blk_drewN ?_ _ | refine blk_drew ?_ | refine blk_alloc ?_ _)); refine blk_put (cs := #[.int .u64 ((rd_T26 l0 x8_1).f0), .bool ((rd_T26 l0 x8_1).f1), .bool ((rd_T26 l0 x8_1).f2), .int .i64 0]) ?_ 3 _ rfl; (with_reducible repeat (first | refine blk_drewN ?_ _ | refine blk_drew ?_ | refine blk_alloc ?_ _)); refine blk_put (cs := #[.int .u64 ((rd_T26 l0 x8_1).f0), .bool ((rd_T26 l0 x8_1).f1), .bool false, .int .i64 0]) ?_ 2 _ rfl; (with_reducible repeat (first | refine blk_drewN ?_ _ | refine blk_drew ?_ | refine blk_alloc ?_ _)); refine blk_put (cs := #[.int .u64 ((rd_T26 l0 x8_1).f0), .bool false, .bool false, .int .i64 0]) ?_ 1 _ rfl; (with_reducible repeat (first | refine blk_drewN ?_ _ | refine blk_drew ?_ | refine blk_alloc ?_ _)); refine blk_put (cs := #[.int .u64 0, .bool false, .bool false, .int .i64 0]) ?_ 0 _ rfl; (with_reducible repeat (first | refine blk_drewN ?_ _ | refine blk_drew ?_ | refine blk_alloc ?_ _)); exact BK164.out) hb); have n2_ := Aside0.mk (below_step (by repeat (first | (with_reducible first | exact HB.out | apply below_alloc | apply pw_below_drewN | apply below_drew1 | refine below_set ?_ GE162.out | refine below_set ?_ GE164.out) | exact HB.out)) hb); have n3_ := Aside0.mk (hbox); have n4_ := Aside0.mk ((by rw [hg]; exact (below_size (by repeat (first | (with_reducible first | exact HB.out | apply below_alloc | apply pw_below_drewN | apply below_drew1 | refine below_set ?_ GE162.out | refine below_set ?_ GE164.out) | exact HB.out))) : w.heap.size ≤ gb165)); have n5_ := Aside0.mk ((by rw [hg]; exact (below_size (by repeat (first | (with_reducible first | exact HB.out | apply below_alloc | apply pw_below_drewN | apply below_drew1 | refine below_set ?_ GE162.out | refine below_set ?_ GE164.out) | exact HB.out))) : w.heap.size ≤ gb165)); have n6_ := Aside0.mk ((by rw [hg]; exact Nat.ne_of_lt (blk_lt (g := gb162) (o := .cells #[.int .i64 x163000_1, .int .i64 x163001_1] 23 (0, 0)) (by (with_reducible repeat (first | refine blk_drewN ?_ _ | refine blk_drew ?_ | refine blk_alloc ?_ _)); refine blk_far ?_ NB162_164.out _; (with_reducible repeat (first | refine blk_drewN ?_ _ | refine blk_drew ?_ | refine blk_alloc ?_ _)); refine blk_far ?_ NB162_164.out _; (with_reducible repeat (first | refine blk_drewN ?_ _ | refine blk_drew ?_ | refine blk_alloc ?_ _)); refine blk_far ?_ NB162_164.out _; (with_reducible repeat (first | refine blk_drewN ?_ _ | refine blk_drew ?_ | refine blk_alloc ?_ _)); refine blk_far ?_ NB162_164.out _; (with_reducible repeat (first | refine blk_drewN ?_ _ | refine blk_drew ?_ | refine blk_alloc ?_ _)); exact BK162.out)) : gb162 ≠ gb165)); have n7_ := Aside0.mk ((by rw [hg]; exact Nat.ne_of_gt (blk_lt (g := gb162) (o := .cells #[.int .i64 x163000_1, .int .i64 x163001_1] 23 (0, 0)) (by (with_reducible repeat (first | refine blk_drewN ?_ _ | refine blk_drew ?_ | refine blk_alloc ?_ _)); refine blk_far ?_ NB162_164.out _; (with_reducible repeat (first | refine blk_drewN ?_ _ | refine blk_drew ?_ | refine blk_alloc ?_ _)); refine blk_far ?_ NB162_164.out _; (with_reducible repeat (first | refine blk_drewN ?_ _ | refine blk_drew ?_ | refine blk_alloc ?_ _)); refine blk_far ?_ NB162_164.out _; (with_reducible repeat (first | refine blk_drewN ?_ _ | refine blk_drew ?_ | refine blk_alloc ?_ _)); refine blk_far ?_ NB162_164.out _; (with_reducible repeat (first | refine blk_drewN ?_ _ | refine blk_drew ?_ | refine blk_alloc ?_ _)); exact BK162.out)) : gb165 ≠ gb162)); have n8_ := Aside0.mk ((by rw [hg]; exact Nat.ne_of_lt (blk_lt (g := gb164) (o := .cells #[.int .u64 ((rd_T26 l0 x8_1).f0), .bool ((rd_T26 l0 x8_1).f1), .bool ((rd_T26 l0 x8_1).f2), .int .i64 ((rd_T26 l0 x8_1).f3)] 26 (0, 0)) (by (with_reducible repeat (first | refine blk_drewN ?_ _ | refine blk_drew ?_ | refine blk_alloc ?_ _)); refine blk_put (cs := #[.int .u64 ((rd_T26 l0 x8_1).f0), .bool ((rd_T26 l0 x8_1).f1), .bool ((rd_T26 l0 x8_1).f2), .int .i64 0]) ?_ 3 _ rfl; (with_reducible repeat (first | refine blk_drewN ?_ _ | refine blk_drew ?_ | refine blk_alloc ?_ _)); refine blk_put (cs := #[.int .u64 ((rd_T26 l0 x8_1).f0), .bool ((rd_T26 l0 x8_1).f1), .bool false, .int .i64 0]) ?_ 2 _ rfl; (with_reducible repeat (first | refine blk_drewN ?_ _ | refine blk_drew ?_ | refine blk_alloc ?_ _)); refine blk_put (cs := #[.int .u64 ((rd_T26 l0 x8_1).f0), .bool false, .bool false, .int .i64 0]) ?_ 1 _ rfl; (with_reducible repeat (first | refine blk_drewN ?_ _ | refine blk_drew ?_ | refine blk_alloc ?_ _)); refine blk_put (cs := #[.int .u64 0, .bool false, .bool false, .int .i64 0]) ?_ 0 _ rfl; (with_reducible repeat (first | refine blk_drewN ?_ _ | refine blk_drew ?_ | refine blk_alloc ?_ _)); exact BK164.out)) : gb164 ≠ gb165)); have n9_ := Aside0.mk ((by rw [hg]; exact Nat.ne_of_gt (blk_lt (g := gb164) (o := .cells #[.int .u64 ((rd_T26 l0 x8_1).f0), .bool ((rd_T26 l0 x8_1).f1), .bool ((rd_T26 l0 x8_1).f2), .int .i64 ((rd_T26 l0 x8_1).f3)] 26 (0, 0)) (by (with_reducible repeat (first | refine blk_drewN ?_ _ | refine blk_drew ?_ | refine blk_alloc ?_ _)); refine blk_put (cs := #[.int .u64 ((rd_T26 l0 x8_1).f0), .bool ((rd_T26 l0 x8_1).f1), .bool ((rd_T26 l0 x8_1).f2), .int .i64 0]) ?_ 3 _ rfl; (with_reducible repeat (first | refine blk_drewN ?_ _ | refine blk_drew ?_ | refine blk_alloc ?_ _)); refine blk_put (cs := #[.int .u64 ((rd_T26 l0 x8_1).f0), .bool ((rd_T26 l0 x8_1).f1), .bool false, .int .i64 0]) ?_ 2 _ rfl; (with_reducible repeat (first | refine blk_drewN ?_ _ | refine blk_drew ?_ | refine blk_alloc ?_ _)); refine blk_put (cs := #[.int .u64 ((rd_T26 l0 x8_1).f0), .bool false, .bool false, .int .i64 0]) ?_ 1 _ rfl; (with_reducible repeat (first | refine blk_drewN ?_ _ | refine blk_drew ?_ | refine blk_alloc ?_ _)); refine blk_put (cs := #[.int .u64 0, .bool false, .bool false, .int .i64 0]) ?_ 0 _ rfl; (with_reducible repeat (first | refine blk_drewN ?_ _ | refine blk_drew ?_ | refine blk_alloc ?_ _)); exact BK164.out)) : gb165 ≠ gb164)); clear BK162; clear BK164; clear HB; have BK162 := n0_; have BK164 := n1_; have HB := n2_; have BK165 := n3_; have GW165 := n4_; have GE165 := n5_; have NB162_165 := n6_; have NB165_162 := n7_; have NB164_165 := n8_; have NB165_164 := n9_; clear n0_ n1_ n2_ n3_ n4_ n5_ n6_ n7_ n8_ n9_; clear hb hbox hg; have hnb21 := NB165_162.out; have hnc21 := NB162_165.out; have hnb22 := NB165_164.out; have hnc22 := NB164_165.out; have hcz23_0 : w20.cell? ⟨gb165, 0, none⟩ = some (.int .i64 0) := (blk_cell BK165.out 0).trans rfl; have hcz23_1 : w20.cell? ⟨gb165, 1, none⟩ = some (.int .i64 0) := (blk_cell BK165.out 1).trans rfl; have hfz23_0 := blk_frozen BK165.out 0; have hfz23_1 := blk_frozen BK165.out 1; have hcz24_0 : w20.cell? ⟨gb162, 0, none⟩ = some (.int .i64 x163000_1) := (blk_cell BK162.out 0).trans rfl; have hcz24_1 : w20.cell? ⟨gb162, 1, none⟩ = some (.int .i64 x163001_1) := (blk_cell BK162.out 1).trans rfl; have hfz24_0 := blk_frozen BK162.out 0; have hfz24_1 := blk_frozen BK162.out 1; have hcz25_0 : w20.cell? ⟨gb164, 0, none⟩ = some (.int .u64 ((rd_T26 l0 x8_1).f0)) := (blk_cell BK164.out 0).trans rfl; have hcz25_1 : w20.cell? ⟨gb164, 1, none⟩ = some (.bool ((rd_T26 l0 x8_1).f1)) := (blk_cell BK164.out 1).trans rfl; have hcz25_2 : w20.cell? ⟨gb164, 2, none⟩ = some (.bool ((rd_T26 l0 x8_1).f2)) := (blk_cell BK164.out 2).trans rfl; have hcz25_3 : w20.cell? ⟨gb164, 3, none⟩ = some (.int .i64 ((rd_T26 l0 x8_1).f3)) := (blk_cell BK164.out 3).trans rfl; have hfz25_0 := blk_frozen BK164.out 0; have hfz25_1 := blk_frozen BK164.out 1; have hfz25_2 := blk_frozen BK164.out 2; have hfz25_3 := blk_frozen BK164.out 3) | ((with_reducible refine gate_callee (f := 8) rfl ?_); refine goesL_ (some 41) rfl rfl Tryd.func8 (by kernel_rfl) rfl #[.agg #[.int .i64 x163000_1, .int .i64 x163001_1], .int .u64 ((rd_T26 l0 x8_1).f0), .bool ((rd_T26 l0 x8_1).f1), .int .i64 (wrap64 ((wrap64 (Int.tmod a1 20)) + 1))] rfl (by (try simp only [List.map_toArray, List.map_cons, List.map_nil]); first | done | rfl | (simp only [List.length_drop, List.length_take]; rfl)) ?_; (with_reducible refine (turn_Turn_Step.calls x163000_1 x163001_1 ((rd_T26 l0 x8_1).f0) ((rd_T26 l0 x8_1).f1) (wrap64 ((wrap64 (Int.tmod a1 20)) + 1)) t166 t167 _ A14.out ?sideL).mono ?_); (case sideL => exact laid_below LA.out (by repeat (first | (with_reducible first | exact HB.out | apply below_alloc | apply pw_below_drewN | apply below_drew1 | refine below_set ?_ GE162.out | refine below_set ?_ GE164.out | refine below_set ?_ GE165.out) | exact HB.out))); rintro e w26 ⟨rfl, hb⟩; refine ⟨_, rfl, ?_⟩; have n0_ := Aside0.mk (blk_below (g := gb162) (o := .cells #[.int .i64 x163000_1, .int .i64 x163001_1] 23 (0, 0)) (by (with_reducible repeat (first | refine blk_drewN ?_ _ | refine blk_drew ?_ | refine blk_alloc ?_ _)); refine blk_far ?_ NB162_165.out _; (with_reducible repeat (first | refine blk_drewN ?_ _ | refine blk_drew ?_ | refine blk_alloc ?_ _)); refine blk_far ?_ NB162_165.out _; (with_reducible repeat (first | refine blk_drewN ?_ _ | refine blk_drew ?_ | refine blk_alloc ?_ _)); exact BK162.out) hb); have n1_ := Aside0.mk (blk_below (g := gb164) (o := .cells #[.int .u64 ((rd_T26 l0 x8_1).f0), .bool ((rd_T26 l0 x8_1).f1), .bool ((rd_T26 l0 x8_1).f2), .int .i64 ((rd_T26 l0 x8_1).f3)] 26 (0, 0)) (by (with_reducible repeat (first | refine blk_drewN ?_ _ | refine blk_drew ?_ | refine blk_alloc ?_ _)); refine blk_far ?_ NB164_165.out _; (with_reducible repeat (first | refine blk_drewN ?_ _ | refine blk_drew ?_ | refine blk_alloc ?_ _)); refine blk_far ?_ NB164_165.out _; (with_reducible repeat (first | refine blk_drewN ?_ _ | refine blk_drew ?_ | refine blk_alloc ?_ _)); exact BK164.out) hb); have n2_ := Aside0.mk (blk_below (g := gb165) (o := .cells #[.int .i64 x163000_1, .int .i64 x163001_1] 23 (0, 0)) (by (with_reducible repeat (first | refine blk_drewN ?_ _ | refine blk_drew ?_ | refine blk_alloc ?_ _)); refine blk_put (cs := #[.int .i64 x163000_1, .int .i64 0]) ?_ 1 _ rfl; (with_reducible repeat (first | refine blk_drewN ?_ _ | refine blk_drew ?_ | refine blk_alloc ?_ _)); refine blk_put (cs := #[.int .i64 0, .int .i64 0]) ?_ 0 _ rfl; (with_reducible repeat (first | refine blk_drewN ?_ _ | refine blk_drew ?_ | refine blk_alloc ?_ _)); exact BK165.out) hb); have n3_ := Aside0.mk (below_step (by repeat (first | (with_reducible first | exact HB.out | apply below_alloc | apply pw_below_drewN | apply below_drew1 | refine below_set ?_ GE162.out | refine below_set ?_ GE164.out | refine below_set ?_ GE165.out) | exact HB.out)) hb); clear BK162; clear BK164; clear BK165; clear HB; have BK162 := n0_; have BK164 := n1_; have BK165 := n2_; have HB := n3_; clear n0_ n1_ n2_ n3_; (try clear hb); (try clear hb2); (try clear hk); (try clear hi); have hcz27_0 : w26.cell? ⟨gb162, 0, none⟩ = some (.int .i64 x163000_1) := (blk_cell BK162.out 0).trans rfl; have hcz27_1 : w26.cell? ⟨gb162, 1, none⟩ = some (.int .i64 x163001_1) := (blk_cell BK162.out 1).trans rfl; have hfz27_0 := blk_frozen BK162.out 0; have hfz27_1 := blk_frozen BK162.out 1))
              (try simp only [Act.put, List.setIfInBounds_toArray, List.set_cons_zero, List.set_cons_succ])
              go_cut [68] (fun v68 wc => ∃ (kq : Nat) (x68_14 : Bool), v68 = .bool x68_14 ∧ Aside0 (paternosterlaw20_TurnReady.j1 kq l0 (wrap64 ((wrap64 (Int.tmod a1 20)) + 1)) x8_1 x68_14 t166 t167 ((rd_T26 l0 x8_1).f0) ((rd_T26 l0 x8_1).f1) ((rd_T26 l0 x8_1).f2) ((rd_T26 l0 x8_1).f3) x163000_1 x163001_1 = some r) ∧ Aside0 (kq ≤ k1) ∧ Aside0 (wc.heap[gb162]? = some (.cells #[.int .i64 t166, .int .i64 t167] 23 (0, 0))) ∧ Aside0 (wc.heap[gb164]? = some (.cells #[.int .u64 ((rd_T26 l0 x8_1).f0), .bool ((rd_T26 l0 x8_1).f1), .bool ((rd_T26 l0 x8_1).f2), .int .i64 ((rd_T26 l0 x8_1).f3)] 26 (0, 0))) ∧ Aside0 (wc.heap[gb165]? = some (.cells #[.int .i64 x163000_1, .int .i64 x163001_1] 23 (0, 0))) ∧ Aside0 (Below w.heap.size w wc))
              case first =>
                have H := HC15.out
                clear HC15
                by_cases c28 : ((rd_T26 l0 x8_1).f0) = 0
                · rw [if_pos c28] at H
                  have c28b0 : (((rd_T26 l0 x8_1).f0) == 0) = true := beq_iff_eq.mpr c28
                  have c28b1 : (((rd_T26 l0 x8_1).f0) != 0) = false := bne_eq_false_iff_eq.mpr c28
                  clear c28
                  (first | rw [c28b0] | (simp only [i64_w, i32_w]; rw [c28b0]) | skip)
                  replace H := Option.bind_eq_some_iff.mp H
                  obtain ⟨⟨t168, t169⟩, A290, H⟩ := H
                  replace H : (if (!(t166 == t168) || (!(t167 == t169))) = true then (paternosterlaw20_TurnReady.j1 k1 l0 (wrap64 ((wrap64 (Int.tmod a1 20)) + 1)) x8_1 true t166 t167 ((rd_T26 l0 x8_1).f0) ((rd_T26 l0 x8_1).f1) ((rd_T26 l0 x8_1).f2) ((rd_T26 l0 x8_1).f3) x163000_1 x163001_1) else (paternosterlaw20_TurnReady.j1 k1 l0 (wrap64 ((wrap64 (Int.tmod a1 20)) + 1)) x8_1 (decide (t167 > (wrap64 ((wrap64 (Int.tmod a1 20)) + 1)))) t166 t167 ((rd_T26 l0 x8_1).f0) ((rd_T26 l0 x8_1).f1) ((rd_T26 l0 x8_1).f2) ((rd_T26 l0 x8_1).f3) x163000_1 x163001_1)) = some r := H
                  have A29 := Aside0.mk A290
                  clear A290
                  by_cases c30 : (!(t166 == t168) || (!(t167 == t169))) = true
                  · rw [if_pos c30] at H
                    have c30b0 : (!(t166 == t168) || (!(t167 == t169))) = true := c30
                    clear c30
                    have H' := Aside0.mk H
                    clear H
                    try go_wp2
                    have n0_ : Aside0 (((w26.setCell ⟨gb162, 0, none⟩ (.int .i64 t166)).setCell ⟨gb162, 1, none⟩ (.int .i64 t167)).heap[gb162]? = some (.cells #[.int .i64 t166, .int .i64 t167] 23 (0, 0))) := ⟨by (with_reducible repeat (first | refine blk_drewN ?_ _ | refine blk_drew ?_ | refine blk_alloc ?_ _)); refine blk_put (cs := #[.int .i64 t166, .int .i64 x163001_1]) ?_ 1 _ rfl; (with_reducible repeat (first | refine blk_drewN ?_ _ | refine blk_drew ?_ | refine blk_alloc ?_ _)); refine blk_put (cs := #[.int .i64 x163000_1, .int .i64 x163001_1]) ?_ 0 _ rfl; (with_reducible repeat (first | refine blk_drewN ?_ _ | refine blk_drew ?_ | refine blk_alloc ?_ _)); exact BK162.out⟩
                    have n1_ : Aside0 (((w26.setCell ⟨gb162, 0, none⟩ (.int .i64 t166)).setCell ⟨gb162, 1, none⟩ (.int .i64 t167)).heap[gb164]? = some (.cells #[.int .u64 ((rd_T26 l0 x8_1).f0), .bool ((rd_T26 l0 x8_1).f1), .bool ((rd_T26 l0 x8_1).f2), .int .i64 ((rd_T26 l0 x8_1).f3)] 26 (0, 0))) := ⟨by (with_reducible repeat (first | refine blk_drewN ?_ _ | refine blk_drew ?_ | refine blk_alloc ?_ _)); refine blk_far ?_ NB164_162.out _; (with_reducible repeat (first | refine blk_drewN ?_ _ | refine blk_drew ?_ | refine blk_alloc ?_ _)); refine blk_far ?_ NB164_162.out _; (with_reducible repeat (first | refine blk_drewN ?_ _ | refine blk_drew ?_ | refine blk_alloc ?_ _)); exact BK164.out⟩
                    have n2_ : Aside0 (((w26.setCell ⟨gb162, 0, none⟩ (.int .i64 t166)).setCell ⟨gb162, 1, none⟩ (.int .i64 t167)).heap[gb165]? = some (.cells #[.int .i64 x163000_1, .int .i64 x163001_1] 23 (0, 0))) := ⟨by (with_reducible repeat (first | refine blk_drewN ?_ _ | refine blk_drew ?_ | refine blk_alloc ?_ _)); refine blk_far ?_ NB165_162.out _; (with_reducible repeat (first | refine blk_drewN ?_ _ | refine blk_drew ?_ | refine blk_alloc ?_ _)); refine blk_far ?_ NB165_162.out _; (with_reducible repeat (first | refine blk_drewN ?_ _ | refine blk_drew ?_ | refine blk_alloc ?_ _)); exact BK165.out⟩
                    have n3_ : Aside0 (Below w.heap.size w ((w26.setCell ⟨gb162, 0, none⟩ (.int .i64 t166)).setCell ⟨gb162, 1, none⟩ (.int .i64 t167))) := ⟨by repeat (first | (with_reducible first | exact HB.out | apply below_alloc | apply pw_below_drewN | apply below_drew1 | refine below_set ?_ GE162.out | refine below_set ?_ GE164.out | refine below_set ?_ GE165.out) | exact HB.out)⟩
                    (try clear BK162)
                    (try clear BK164)
                    (try clear BK165)
                    (try clear HB)
                    generalize ((w26.setCell ⟨gb162, 0, none⟩ (.int .i64 t166)).setCell ⟨gb162, 1, none⟩ (.int .i64 t167)) = w31 at n0_ n1_ n2_ n3_ ⊢
                    have BK162 := n0_
                    have BK164 := n1_
                    have BK165 := n2_
                    have HB := n3_
                    clear n0_ n1_ n2_ n3_
                    have n0_ := Aside0.mk (blk_drew BK162.out)
                    have n1_ := Aside0.mk (blk_drew BK164.out)
                    have n2_ := Aside0.mk (blk_drew BK165.out)
                    have n3_ := Aside0.mk (below_drew1 HB.out)
                    clear BK162
                    clear BK164
                    clear BK165
                    clear HB
                    have BK162 := n0_
                    have BK164 := n1_
                    have BK165 := n2_
                    have HB := n3_
                    clear n0_ n1_ n2_ n3_
                    refine start_ (n := 27) (S := fun w' => w'.cell? ⟨gb164, 0, none⟩ = some (.int .u64 ((rd_T26 l0 x8_1).f0)) ∧ w'.cell? ⟨gb164, 1, none⟩ = some (.bool ((rd_T26 l0 x8_1).f1)) ∧ w'.cell? ⟨gb164, 2, none⟩ = some (.bool ((rd_T26 l0 x8_1).f2)) ∧ w'.cell? ⟨gb164, 3, none⟩ = some (.int .i64 ((rd_T26 l0 x8_1).f3)) ∧ w'.cell? ⟨gb162, 0, none⟩ = some (.int .i64 t166) ∧ w'.cell? ⟨gb162, 1, none⟩ = some (.int .i64 t167)) (ds := []) #[false, false, false, false, false, false, false, false, false, false, false, false, false, false, false, false, false, false, false, false, false, false, false, false, false, false, false] (by kernel_rfl) rfl rfl ⟨(blk_cell BK164.out 0).trans rfl, (blk_cell BK164.out 1).trans rfl, (blk_cell BK164.out 2).trans rfl, (blk_cell BK164.out 3).trans rfl, (blk_cell BK162.out 0).trans rfl, (blk_cell BK162.out 1).trans rfl⟩ (fun hHeld => ?_); refine with_tabW paternosterlaw20_TurnReady.tab14 paternosterlaw20_TurnReady.bits14 (fun HT_ HW_ => ?_)
                    generalize w31.drew = w32 at BK162 BK164 BK165 HB hHeld ⊢
                    refine pure_ (i := 0) (N := some 42) (v := ?_) (a' := ?_) #[true, false, false, false, false, false, false, false, false, false, false, false, false, false, false, false, false, false, false, false, false, false, false, false, false, false, false] rfl rfl (any_of HT_.out (by kernel_rfl)) (fun _ _ _ h => h) (Or.inl ⟨by rfl, ?_⟩) ?_ ?_
                    rotate_left
                    · intro w'
                      go_simp
                      with_reducible rfl
                    rotate_left
                    · simp only [Act.put, List.setIfInBounds_toArray, List.set_cons_zero, List.set_cons_succ, i64_w, i32_w]
                      rfl
                    refine take_ (i := 1) (N := some 43) (v := ?_) (a' := ?_) #[true, true, false, false, false, false, false, false, false, false, false, false, false, false, false, false, false, false, false, false, false, false, false, false, false, false, false] rfl rfl (take_ofW HT_.out HW_.out (by kernel_rfl)) (fun _ _ _ h => h) (Or.inl ⟨by rfl, ?_⟩) hHeld ?_ ?_
                    rotate_left
                    · rintro w' ⟨s0, s1, s2, s3, s4, s5⟩
                      go_simp
                      with_reducible rfl
                    rotate_left
                    · simp only [Act.put, List.setIfInBounds_toArray, List.set_cons_zero, List.set_cons_succ, i64_w, i32_w]
                      rfl
                    refine pure_ (i := 2) (N := some 44) (v := ?_) (a' := ?_) #[true, true, true, false, false, false, false, false, false, false, false, false, false, false, false, false, false, false, false, false, false, false, false, false, false, false, false] rfl rfl (any_of HT_.out (by kernel_rfl)) (fun _ _ _ h => h) (Or.inl ⟨by rfl, ?_⟩) ?_ ?_
                    rotate_left
                    · intro w'
                      go_simp
                      with_reducible rfl
                    rotate_left
                    · simp only [Act.put, List.setIfInBounds_toArray, List.set_cons_zero, List.set_cons_succ, i64_w, i32_w]
                      rfl
                    refine pure_ (i := 3) (N := some 45) (v := ?_) (a' := ?_) #[true, true, true, true, false, false, false, false, false, false, false, false, false, false, false, false, false, false, false, false, false, false, false, false, false, false, false] rfl rfl (any_of HT_.out (by kernel_rfl)) (fun _ _ _ h => h) (Or.inl ⟨by rfl, ?_⟩) ?_ ?_
                    rotate_left
                    · intro w'
                      go_simp
                      with_reducible rfl
                    rotate_left
                    · simp only [Act.put, List.setIfInBounds_toArray, List.set_cons_zero, List.set_cons_succ, i64_w, i32_w]
                      rfl
                    refine take_ (i := 4) (N := some 46) (v := ?_) (a' := ?_) #[true, true, true, true, true, false, false, false, false, false, false, false, false, false, false, false, false, false, false, false, false, false, false, false, false, false, false] rfl rfl (take_ofW HT_.out HW_.out (by kernel_rfl)) (fun _ _ _ h => h) (Or.inl ⟨by rfl, ?_⟩) hHeld ?_ ?_
                    rotate_left
                    · rintro w' ⟨s0, s1, s2, s3, s4, s5⟩
                      go_simp
                      with_reducible rfl
                    rotate_left
                    · simp only [Act.put, List.setIfInBounds_toArray, List.set_cons_zero, List.set_cons_succ, i64_w, i32_w]
                      rfl
                    refine one_ (i := 5) (N := some 47) #[true, true, true, true, true, true, false, false, false, false, false, false, false, false, false, false, false, false, false, false, false, false, false, false, false, false, false] rfl rfl (one_of HT_.out (by kernel_rfl)) (by decide) (fun K hK => ?_)
                    refine goes_ Tryd.func12 (by kernel_rfl) rfl #[] (by rfl) rfl rfl (by (try simp only [List.map_toArray, List.map_cons, List.map_nil]); first | done | rfl | (simp only [List.length_drop, List.length_take]; rfl)) ?_
                    with_reducible refine (turn_None.calls  t168 t169 _ A29.out).mono ?_
                    rintro e w33 ⟨rfl, hb⟩
                    refine ⟨_, rfl, ?_⟩
                    have n0_ := Aside0.mk (blk_below (g := gb162) (o := .cells #[.int .i64 t166, .int .i64 t167] 23 (0, 0)) (by (with_reducible repeat (first | refine blk_drewN ?_ _ | refine blk_drew ?_ | refine blk_alloc ?_ _)); exact BK162.out) hb)
                    have n1_ := Aside0.mk (blk_below (g := gb164) (o := .cells #[.int .u64 ((rd_T26 l0 x8_1).f0), .bool ((rd_T26 l0 x8_1).f1), .bool ((rd_T26 l0 x8_1).f2), .int .i64 ((rd_T26 l0 x8_1).f3)] 26 (0, 0)) (by (with_reducible repeat (first | refine blk_drewN ?_ _ | refine blk_drew ?_ | refine blk_alloc ?_ _)); exact BK164.out) hb)
                    have n2_ := Aside0.mk (blk_below (g := gb165) (o := .cells #[.int .i64 x163000_1, .int .i64 x163001_1] 23 (0, 0)) (by (with_reducible repeat (first | refine blk_drewN ?_ _ | refine blk_drew ?_ | refine blk_alloc ?_ _)); exact BK165.out) hb)
                    have n3_ := Aside0.mk (below_step (by repeat (first | (with_reducible first | exact HB.out | apply below_alloc | apply pw_below_drewN | apply below_drew1 | refine below_set ?_ GE162.out | refine below_set ?_ GE164.out | refine below_set ?_ GE165.out) | exact HB.out)) hb)
                    clear BK162
                    clear BK164
                    clear BK165
                    clear HB
                    have BK162 := n0_
                    have BK164 := n1_
                    have BK165 := n2_
                    have HB := n3_
                    clear n0_ n1_ n2_ n3_
                    (try clear hb)
                    (try clear hb2)
                    (try clear hk)
                    (try clear hi)
                    refine hK.out _ _ ⟨(blk_cell BK164.out 0).trans rfl, (blk_cell BK164.out 1).trans rfl, (blk_cell BK164.out 2).trans rfl, (blk_cell BK164.out 3).trans rfl, (blk_cell BK162.out 0).trans rfl, (blk_cell BK162.out 1).trans rfl⟩ (fun hHeld => ?_)
                    clear hK K
                    refine norm_ (a' := ?_) ?_ ?_
                    rotate_left
                    · show Act.put _ (some 47) _ = _
                      simp only [Act.put, List.setIfInBounds_toArray, List.set_cons_zero, List.set_cons_succ, i64_w, i32_w]
                      rfl
                    refine pure_ (i := 6) (N := some 48) (v := ?_) (a' := ?_) #[true, true, true, true, true, true, true, false, false, false, false, false, false, false, false, false, false, false, false, false, false, false, false, false, false, false, false] rfl rfl (any_of HT_.out (by kernel_rfl)) (fun _ _ _ h => h) (Or.inl ⟨by rfl, ?_⟩) ?_ ?_
                    rotate_left
                    · intro w'
                      go_simp
                      with_reducible rfl
                    rotate_left
                    · simp only [Act.put, List.setIfInBounds_toArray, List.set_cons_zero, List.set_cons_succ, i64_w, i32_w]
                      rfl
                    refine pure_ (i := 7) (N := some 49) (v := ?_) (a' := ?_) #[true, true, true, true, true, true, true, true, false, false, false, false, false, false, false, false, false, false, false, false, false, false, false, false, false, false, false] rfl rfl (any_of HT_.out (by kernel_rfl)) (fun _ _ _ h => h) (Or.inl ⟨by rfl, ?_⟩) ?_ ?_
                    rotate_left
                    · intro w'
                      go_simp
                      with_reducible rfl
                    rotate_left
                    · simp only [Act.put, List.setIfInBounds_toArray, List.set_cons_zero, List.set_cons_succ, i64_w, i32_w]
                      rfl
                    refine pure_ (i := 8) (N := some 50) (v := ?_) (a' := ?_) #[true, true, true, true, true, true, true, true, true, false, false, false, false, false, false, false, false, false, false, false, false, false, false, false, false, false, false] rfl rfl (any_of HT_.out (by kernel_rfl)) (fun _ _ _ h => h) (Or.inl ⟨by rfl, ?_⟩) ?_ ?_
                    rotate_left
                    · intro w'
                      go_simp
                      with_reducible rfl
                    rotate_left
                    · simp only [Act.put, List.setIfInBounds_toArray, List.set_cons_zero, List.set_cons_succ, i64_w, i32_w]
                      rfl
                    refine pure_ (i := 9) (N := some 51) (v := undef) (a' := ?_) #[true, true, true, true, true, true, true, true, true, true, false, false, false, false, false, false, false, false, false, false, false, false, false, false, false, false, false] rfl rfl (any_of HT_.out (by kernel_rfl)) (fun _ _ _ h => h) (Or.inr ⟨by rfl, rfl⟩) ?_ ?_
                    rotate_left
                    · simp only [Act.put, List.setIfInBounds_toArray, List.set_cons_zero, List.set_cons_succ, i64_w, i32_w]
                      rfl
                    refine pure_ (i := 10) (N := some 52) (v := undef) (a' := ?_) #[true, true, true, true, true, true, true, true, true, true, true, false, false, false, false, false, false, false, false, false, false, false, false, false, false, false, false] rfl rfl (any_of HT_.out (by kernel_rfl)) (fun _ _ _ h => h) (Or.inr ⟨by rfl, rfl⟩) ?_ ?_
                    rotate_left
                    · simp only [Act.put, List.setIfInBounds_toArray, List.set_cons_zero, List.set_cons_succ, i64_w, i32_w]
                      rfl
                    refine pure_ (i := 11) (N := some 53) (v := undef) (a' := ?_) #[true, true, true, true, true, true, true, true, true, true, true, true, false, false, false, false, false, false, false, false, false, false, false, false, false, false, false] rfl rfl (any_of HT_.out (by kernel_rfl)) (fun _ _ _ h => h) (Or.inr ⟨by rfl, rfl⟩) ?_ ?_
                    rotate_left
                    · simp only [Act.put, List.setIfInBounds_toArray, List.set_cons_zero, List.set_cons_succ, i64_w, i32_w]
                      rfl
                    refine pure_ (i := 12) (N := some 54) (v := undef) (a' := ?_) #[true, true, true, true, true, true, true, true, true, true, true, true, true, false, false, false, false, false, false, false, false, false, false, false, false, false, false] rfl rfl (any_of HT_.out (by kernel_rfl)) (fun _ _ _ h => h) (Or.inr ⟨by rfl, rfl⟩) ?_ ?_
                    rotate_left
                    · simp only [Act.put, List.setIfInBounds_toArray, List.set_cons_zero, List.set_cons_succ, i64_w, i32_w]
                      rfl
                    refine pure_ (i := 13) (N := some 55) (v := undef) (a' := ?_) #[true, true, true, true, true, true, true, true, true, true, true, true, true, true, false, false, false, false, false, false, false, false, false, false, false, false, false] rfl rfl (any_of HT_.out (by kernel_rfl)) (fun _ _ _ h => h) (Or.inr ⟨by rfl, rfl⟩) ?_ ?_
                    rotate_left
                    · simp only [Act.put, List.setIfInBounds_toArray, List.set_cons_zero, List.set_cons_succ, i64_w, i32_w]
                      rfl
                    refine pure_ (i := 14) (N := some 56) (v := undef) (a' := ?_) #[true, true, true, true, true, true, true, true, true, true, true, true, true, true, true, false, false, false, false, false, false, false, false, false, false, false, false] rfl rfl (any_of HT_.out (by kernel_rfl)) (fun _ _ _ h => h) (Or.inr ⟨by rfl, rfl⟩) ?_ ?_
                    rotate_left
                    · simp only [Act.put, List.setIfInBounds_toArray, List.set_cons_zero, List.set_cons_succ, i64_w, i32_w]
                      rfl
                    refine pure_ (i := 15) (N := some 57) (v := undef) (a' := ?_) #[true, true, true, true, true, true, true, true, true, true, true, true, true, true, true, true, false, false, false, false, false, false, false, false, false, false, false] rfl rfl (any_of HT_.out (by kernel_rfl)) (fun _ _ _ h => h) (Or.inr ⟨by rfl, rfl⟩) ?_ ?_
                    rotate_left
                    · simp only [Act.put, List.setIfInBounds_toArray, List.set_cons_zero, List.set_cons_succ, i64_w, i32_w]
                      rfl
                    refine pure_ (i := 16) (N := some 58) (v := undef) (a' := ?_) #[true, true, true, true, true, true, true, true, true, true, true, true, true, true, true, true, true, false, false, false, false, false, false, false, false, false, false] rfl rfl (any_of HT_.out (by kernel_rfl)) (fun _ _ _ h => h) (Or.inr ⟨by rfl, rfl⟩) ?_ ?_
                    rotate_left
                    · simp only [Act.put, List.setIfInBounds_toArray, List.set_cons_zero, List.set_cons_succ, i64_w, i32_w]
                      rfl
                    refine pure_ (i := 17) (N := some 59) (v := undef) (a' := ?_) #[true, true, true, true, true, true, true, true, true, true, true, true, true, true, true, true, true, true, false, false, false, false, false, false, false, false, false] rfl rfl (any_of HT_.out (by kernel_rfl)) (fun _ _ _ h => h) (Or.inr ⟨by rfl, rfl⟩) ?_ ?_
                    rotate_left
                    · simp only [Act.put, List.setIfInBounds_toArray, List.set_cons_zero, List.set_cons_succ, i64_w, i32_w]
                      rfl
                    refine pure_ (i := 18) (N := some 60) (v := undef) (a' := ?_) #[true, true, true, true, true, true, true, true, true, true, true, true, true, true, true, true, true, true, true, false, false, false, false, false, false, false, false] rfl rfl (any_of HT_.out (by kernel_rfl)) (fun _ _ _ h => h) (Or.inr ⟨by rfl, rfl⟩) ?_ ?_
                    rotate_left
                    · simp only [Act.put, List.setIfInBounds_toArray, List.set_cons_zero, List.set_cons_succ, i64_w, i32_w]
                      rfl
                    refine pure_ (i := 19) (N := some 61) (v := undef) (a' := ?_) #[true, true, true, true, true, true, true, true, true, true, true, true, true, true, true, true, true, true, true, true, false, false, false, false, false, false, false] rfl rfl (any_of HT_.out (by kernel_rfl)) (fun _ _ _ h => h) (Or.inr ⟨by rfl, rfl⟩) ?_ ?_
                    rotate_left
                    · simp only [Act.put, List.setIfInBounds_toArray, List.set_cons_zero, List.set_cons_succ, i64_w, i32_w]
                      rfl
                    refine pure_ (i := 20) (N := some 62) (v := ?_) (a' := ?_) #[true, true, true, true, true, true, true, true, true, true, true, true, true, true, true, true, true, true, true, true, true, false, false, false, false, false, false] rfl rfl (any_of HT_.out (by kernel_rfl)) (fun _ _ _ h => h) (Or.inl ⟨by rfl, ?_⟩) ?_ ?_
                    rotate_left
                    · intro w'
                      go_simp
                      with_reducible rfl
                    rotate_left
                    · simp only [Act.put, List.setIfInBounds_toArray, List.set_cons_zero, List.set_cons_succ, i64_w, i32_w]
                      rfl
                    refine pure_ (i := 21) (N := some 63) (v := ?_) (a' := ?_) #[true, true, true, true, true, true, true, true, true, true, true, true, true, true, true, true, true, true, true, true, true, true, false, false, false, false, false] rfl rfl (any_of HT_.out (by kernel_rfl)) (fun _ _ _ h => h) (Or.inl ⟨by rfl, ?_⟩) ?_ ?_
                    rotate_left
                    · intro w'
                      go_simp
                      with_reducible rfl
                    rotate_left
                    · simp only [Act.put, List.setIfInBounds_toArray, List.set_cons_zero, List.set_cons_succ, i64_w, i32_w]
                      rfl
                    refine pure_ (i := 22) (N := some 64) (v := undef) (a' := ?_) #[true, true, true, true, true, true, true, true, true, true, true, true, true, true, true, true, true, true, true, true, true, true, true, false, false, false, false] rfl rfl (any_of HT_.out (by kernel_rfl)) (fun _ _ _ h => h) (Or.inr ⟨by rfl, rfl⟩) ?_ ?_
                    rotate_left
                    · simp only [Act.put, List.setIfInBounds_toArray, List.set_cons_zero, List.set_cons_succ, i64_w, i32_w]
                      rfl
                    refine pure_ (i := 23) (N := some 65) (v := undef) (a' := ?_) #[true, true, true, true, true, true, true, true, true, true, true, true, true, true, true, true, true, true, true, true, true, true, true, true, false, false, false] rfl rfl (any_of HT_.out (by kernel_rfl)) (fun _ _ _ h => h) (Or.inr ⟨by rfl, rfl⟩) ?_ ?_
                    rotate_left
                    · simp only [Act.put, List.setIfInBounds_toArray, List.set_cons_zero, List.set_cons_succ, i64_w, i32_w]
                      rfl
                    refine pure_ (i := 24) (N := some 66) (v := undef) (a' := ?_) #[true, true, true, true, true, true, true, true, true, true, true, true, true, true, true, true, true, true, true, true, true, true, true, true, true, false, false] rfl rfl (any_of HT_.out (by kernel_rfl)) (fun _ _ _ h => h) (Or.inr ⟨by rfl, rfl⟩) ?_ ?_
                    rotate_left
                    · simp only [Act.put, List.setIfInBounds_toArray, List.set_cons_zero, List.set_cons_succ, i64_w, i32_w]
                      rfl
                    refine pure_ (i := 25) (N := some 67) (v := undef) (a' := ?_) #[true, true, true, true, true, true, true, true, true, true, true, true, true, true, true, true, true, true, true, true, true, true, true, true, true, true, false] rfl rfl (any_of HT_.out (by kernel_rfl)) (fun _ _ _ h => h) (Or.inr ⟨by rfl, rfl⟩) ?_ ?_
                    rotate_left
                    · simp only [Act.put, List.setIfInBounds_toArray, List.set_cons_zero, List.set_cons_succ, i64_w, i32_w]
                      rfl
                    refine pure_ (i := 26) (N := some 68) (v := ?_) (a' := ?_) #[true, true, true, true, true, true, true, true, true, true, true, true, true, true, true, true, true, true, true, true, true, true, true, true, true, true, true] rfl rfl (any_of HT_.out (by kernel_rfl)) (fun _ _ _ h => h) (Or.inl ⟨by rfl, ?_⟩) ?_ ?_
                    rotate_left
                    · intro w'
                      go_simp
                      with_reducible rfl
                    rotate_left
                    · simp only [Act.put, List.setIfInBounds_toArray, List.set_cons_zero, List.set_cons_succ, i64_w, i32_w]
                      rfl
                    refine done_ (done_of HT_.out (by kernel_rfl)) ?_
                    try go_wp2
                    go_meet
                    case rel => exact ⟨_, (true), (by first | rfl | (simp; done) | (simp [*]; done)), H', ⟨by have := HK1.out; first | omega | exact Nat.le_refl _⟩, ⟨by (with_reducible repeat (first | refine blk_drewN ?_ _ | refine blk_drew ?_ | refine blk_alloc ?_ _)); exact BK162.out⟩, ⟨by (with_reducible repeat (first | refine blk_drewN ?_ _ | refine blk_drew ?_ | refine blk_alloc ?_ _)); exact BK164.out⟩, ⟨by (with_reducible repeat (first | refine blk_drewN ?_ _ | refine blk_drew ?_ | refine blk_alloc ?_ _)); exact BK165.out⟩, ⟨by repeat (first | (with_reducible first | exact HB.out | apply below_alloc | apply pw_below_drewN | apply below_drew1 | refine below_set ?_ GE162.out | refine below_set ?_ GE164.out | refine below_set ?_ GE165.out) | exact HB.out)⟩⟩
                  · rw [if_neg c30] at H
                    have c30b0 : (!(t166 == t168) || (!(t167 == t169))) = false := by simpa using c30
                    clear c30
                    have H' := Aside0.mk H
                    clear H
                    try go_wp2
                    have n0_ : Aside0 (((w26.setCell ⟨gb162, 0, none⟩ (.int .i64 t166)).setCell ⟨gb162, 1, none⟩ (.int .i64 t167)).heap[gb162]? = some (.cells #[.int .i64 t166, .int .i64 t167] 23 (0, 0))) := ⟨by (with_reducible repeat (first | refine blk_drewN ?_ _ | refine blk_drew ?_ | refine blk_alloc ?_ _)); refine blk_put (cs := #[.int .i64 t166, .int .i64 x163001_1]) ?_ 1 _ rfl; (with_reducible repeat (first | refine blk_drewN ?_ _ | refine blk_drew ?_ | refine blk_alloc ?_ _)); refine blk_put (cs := #[.int .i64 x163000_1, .int .i64 x163001_1]) ?_ 0 _ rfl; (with_reducible repeat (first | refine blk_drewN ?_ _ | refine blk_drew ?_ | refine blk_alloc ?_ _)); exact BK162.out⟩
                    have n1_ : Aside0 (((w26.setCell ⟨gb162, 0, none⟩ (.int .i64 t166)).setCell ⟨gb162, 1, none⟩ (.int .i64 t167)).heap[gb164]? = some (.cells #[.int .u64 ((rd_T26 l0 x8_1).f0), .bool ((rd_T26 l0 x8_1).f1), .bool ((rd_T26 l0 x8_1).f2), .int .i64 ((rd_T26 l0 x8_1).f3)] 26 (0, 0))) := ⟨by (with_reducible repeat (first | refine blk_drewN ?_ _ | refine blk_drew ?_ | refine blk_alloc ?_ _)); refine blk_far ?_ NB164_162.out _; (with_reducible repeat (first | refine blk_drewN ?_ _ | refine blk_drew ?_ | refine blk_alloc ?_ _)); refine blk_far ?_ NB164_162.out _; (with_reducible repeat (first | refine blk_drewN ?_ _ | refine blk_drew ?_ | refine blk_alloc ?_ _)); exact BK164.out⟩
                    have n2_ : Aside0 (((w26.setCell ⟨gb162, 0, none⟩ (.int .i64 t166)).setCell ⟨gb162, 1, none⟩ (.int .i64 t167)).heap[gb165]? = some (.cells #[.int .i64 x163000_1, .int .i64 x163001_1] 23 (0, 0))) := ⟨by (with_reducible repeat (first | refine blk_drewN ?_ _ | refine blk_drew ?_ | refine blk_alloc ?_ _)); refine blk_far ?_ NB165_162.out _; (with_reducible repeat (first | refine blk_drewN ?_ _ | refine blk_drew ?_ | refine blk_alloc ?_ _)); refine blk_far ?_ NB165_162.out _; (with_reducible repeat (first | refine blk_drewN ?_ _ | refine blk_drew ?_ | refine blk_alloc ?_ _)); exact BK165.out⟩
                    have n3_ : Aside0 (Below w.heap.size w ((w26.setCell ⟨gb162, 0, none⟩ (.int .i64 t166)).setCell ⟨gb162, 1, none⟩ (.int .i64 t167))) := ⟨by repeat (first | (with_reducible first | exact HB.out | apply below_alloc | apply pw_below_drewN | apply below_drew1 | refine below_set ?_ GE162.out | refine below_set ?_ GE164.out | refine below_set ?_ GE165.out) | exact HB.out)⟩
                    (try clear BK162)
                    (try clear BK164)
                    (try clear BK165)
                    (try clear HB)
                    generalize ((w26.setCell ⟨gb162, 0, none⟩ (.int .i64 t166)).setCell ⟨gb162, 1, none⟩ (.int .i64 t167)) = w34 at n0_ n1_ n2_ n3_ ⊢
                    have BK162 := n0_
                    have BK164 := n1_
                    have BK165 := n2_
                    have HB := n3_
                    clear n0_ n1_ n2_ n3_
                    have n0_ := Aside0.mk (blk_drew BK162.out)
                    have n1_ := Aside0.mk (blk_drew BK164.out)
                    have n2_ := Aside0.mk (blk_drew BK165.out)
                    have n3_ := Aside0.mk (below_drew1 HB.out)
                    clear BK162
                    clear BK164
                    clear BK165
                    clear HB
                    have BK162 := n0_
                    have BK164 := n1_
                    have BK165 := n2_
                    have HB := n3_
                    clear n0_ n1_ n2_ n3_
                    refine start_ (n := 27) (S := fun w' => w'.cell? ⟨gb164, 0, none⟩ = some (.int .u64 ((rd_T26 l0 x8_1).f0)) ∧ w'.cell? ⟨gb164, 1, none⟩ = some (.bool ((rd_T26 l0 x8_1).f1)) ∧ w'.cell? ⟨gb164, 2, none⟩ = some (.bool ((rd_T26 l0 x8_1).f2)) ∧ w'.cell? ⟨gb164, 3, none⟩ = some (.int .i64 ((rd_T26 l0 x8_1).f3)) ∧ w'.cell? ⟨gb162, 0, none⟩ = some (.int .i64 t166) ∧ w'.cell? ⟨gb162, 1, none⟩ = some (.int .i64 t167)) (ds := []) #[false, false, false, false, false, false, false, false, false, false, false, false, false, false, false, false, false, false, false, false, false, false, false, false, false, false, false] (by kernel_rfl) rfl rfl ⟨(blk_cell BK164.out 0).trans rfl, (blk_cell BK164.out 1).trans rfl, (blk_cell BK164.out 2).trans rfl, (blk_cell BK164.out 3).trans rfl, (blk_cell BK162.out 0).trans rfl, (blk_cell BK162.out 1).trans rfl⟩ (fun hHeld => ?_); refine with_tabW paternosterlaw20_TurnReady.tab14 paternosterlaw20_TurnReady.bits14 (fun HT_ HW_ => ?_)
                    generalize w34.drew = w35 at BK162 BK164 BK165 HB hHeld ⊢
                    refine pure_ (i := 0) (N := some 42) (v := ?_) (a' := ?_) #[true, false, false, false, false, false, false, false, false, false, false, false, false, false, false, false, false, false, false, false, false, false, false, false, false, false, false] rfl rfl (any_of HT_.out (by kernel_rfl)) (fun _ _ _ h => h) (Or.inl ⟨by rfl, ?_⟩) ?_ ?_
                    rotate_left
                    · intro w'
                      go_simp
                      with_reducible rfl
                    rotate_left
                    · simp only [Act.put, List.setIfInBounds_toArray, List.set_cons_zero, List.set_cons_succ, i64_w, i32_w]
                      rfl
                    refine take_ (i := 1) (N := some 43) (v := ?_) (a' := ?_) #[true, true, false, false, false, false, false, false, false, false, false, false, false, false, false, false, false, false, false, false, false, false, false, false, false, false, false] rfl rfl (take_ofW HT_.out HW_.out (by kernel_rfl)) (fun _ _ _ h => h) (Or.inl ⟨by rfl, ?_⟩) hHeld ?_ ?_
                    rotate_left
                    · rintro w' ⟨s0, s1, s2, s3, s4, s5⟩
                      go_simp
                      with_reducible rfl
                    rotate_left
                    · simp only [Act.put, List.setIfInBounds_toArray, List.set_cons_zero, List.set_cons_succ, i64_w, i32_w]
                      rfl
                    refine pure_ (i := 2) (N := some 44) (v := ?_) (a' := ?_) #[true, true, true, false, false, false, false, false, false, false, false, false, false, false, false, false, false, false, false, false, false, false, false, false, false, false, false] rfl rfl (any_of HT_.out (by kernel_rfl)) (fun _ _ _ h => h) (Or.inl ⟨by rfl, ?_⟩) ?_ ?_
                    rotate_left
                    · intro w'
                      go_simp
                      with_reducible rfl
                    rotate_left
                    · simp only [Act.put, List.setIfInBounds_toArray, List.set_cons_zero, List.set_cons_succ, i64_w, i32_w]
                      rfl
                    refine pure_ (i := 3) (N := some 45) (v := ?_) (a' := ?_) #[true, true, true, true, false, false, false, false, false, false, false, false, false, false, false, false, false, false, false, false, false, false, false, false, false, false, false] rfl rfl (any_of HT_.out (by kernel_rfl)) (fun _ _ _ h => h) (Or.inl ⟨by rfl, ?_⟩) ?_ ?_
                    rotate_left
                    · intro w'
                      go_simp
                      with_reducible rfl
                    rotate_left
                    · simp only [Act.put, List.setIfInBounds_toArray, List.set_cons_zero, List.set_cons_succ, i64_w, i32_w]
                      rfl
                    refine take_ (i := 4) (N := some 46) (v := ?_) (a' := ?_) #[true, true, true, true, true, false, false, false, false, false, false, false, false, false, false, false, false, false, false, false, false, false, false, false, false, false, false] rfl rfl (take_ofW HT_.out HW_.out (by kernel_rfl)) (fun _ _ _ h => h) (Or.inl ⟨by rfl, ?_⟩) hHeld ?_ ?_
                    rotate_left
                    · rintro w' ⟨s0, s1, s2, s3, s4, s5⟩
                      go_simp
                      with_reducible rfl
                    rotate_left
                    · simp only [Act.put, List.setIfInBounds_toArray, List.set_cons_zero, List.set_cons_succ, i64_w, i32_w]
                      rfl
                    refine one_ (i := 5) (N := some 47) #[true, true, true, true, true, true, false, false, false, false, false, false, false, false, false, false, false, false, false, false, false, false, false, false, false, false, false] rfl rfl (one_of HT_.out (by kernel_rfl)) (by decide) (fun K hK => ?_)
                    refine goes_ Tryd.func12 (by kernel_rfl) rfl #[] (by rfl) rfl rfl (by (try simp only [List.map_toArray, List.map_cons, List.map_nil]); first | done | rfl | (simp only [List.length_drop, List.length_take]; rfl)) ?_
                    with_reducible refine (turn_None.calls  t168 t169 _ A29.out).mono ?_
                    rintro e w36 ⟨rfl, hb⟩
                    refine ⟨_, rfl, ?_⟩
                    have n0_ := Aside0.mk (blk_below (g := gb162) (o := .cells #[.int .i64 t166, .int .i64 t167] 23 (0, 0)) (by (with_reducible repeat (first | refine blk_drewN ?_ _ | refine blk_drew ?_ | refine blk_alloc ?_ _)); exact BK162.out) hb)
                    have n1_ := Aside0.mk (blk_below (g := gb164) (o := .cells #[.int .u64 ((rd_T26 l0 x8_1).f0), .bool ((rd_T26 l0 x8_1).f1), .bool ((rd_T26 l0 x8_1).f2), .int .i64 ((rd_T26 l0 x8_1).f3)] 26 (0, 0)) (by (with_reducible repeat (first | refine blk_drewN ?_ _ | refine blk_drew ?_ | refine blk_alloc ?_ _)); exact BK164.out) hb)
                    have n2_ := Aside0.mk (blk_below (g := gb165) (o := .cells #[.int .i64 x163000_1, .int .i64 x163001_1] 23 (0, 0)) (by (with_reducible repeat (first | refine blk_drewN ?_ _ | refine blk_drew ?_ | refine blk_alloc ?_ _)); exact BK165.out) hb)
                    have n3_ := Aside0.mk (below_step (by repeat (first | (with_reducible first | exact HB.out | apply below_alloc | apply pw_below_drewN | apply below_drew1 | refine below_set ?_ GE162.out | refine below_set ?_ GE164.out | refine below_set ?_ GE165.out) | exact HB.out)) hb)
                    clear BK162
                    clear BK164
                    clear BK165
                    clear HB
                    have BK162 := n0_
                    have BK164 := n1_
                    have BK165 := n2_
                    have HB := n3_
                    clear n0_ n1_ n2_ n3_
                    (try clear hb)
                    (try clear hb2)
                    (try clear hk)
                    (try clear hi)
                    refine hK.out _ _ ⟨(blk_cell BK164.out 0).trans rfl, (blk_cell BK164.out 1).trans rfl, (blk_cell BK164.out 2).trans rfl, (blk_cell BK164.out 3).trans rfl, (blk_cell BK162.out 0).trans rfl, (blk_cell BK162.out 1).trans rfl⟩ (fun hHeld => ?_)
                    clear hK K
                    refine norm_ (a' := ?_) ?_ ?_
                    rotate_left
                    · show Act.put _ (some 47) _ = _
                      simp only [Act.put, List.setIfInBounds_toArray, List.set_cons_zero, List.set_cons_succ, i64_w, i32_w]
                      rfl
                    refine pure_ (i := 6) (N := some 48) (v := ?_) (a' := ?_) #[true, true, true, true, true, true, true, false, false, false, false, false, false, false, false, false, false, false, false, false, false, false, false, false, false, false, false] rfl rfl (any_of HT_.out (by kernel_rfl)) (fun _ _ _ h => h) (Or.inl ⟨by rfl, ?_⟩) ?_ ?_
                    rotate_left
                    · intro w'
                      go_simp
                      with_reducible rfl
                    rotate_left
                    · simp only [Act.put, List.setIfInBounds_toArray, List.set_cons_zero, List.set_cons_succ, i64_w, i32_w]
                      rfl
                    refine pure_ (i := 7) (N := some 49) (v := ?_) (a' := ?_) #[true, true, true, true, true, true, true, true, false, false, false, false, false, false, false, false, false, false, false, false, false, false, false, false, false, false, false] rfl rfl (any_of HT_.out (by kernel_rfl)) (fun _ _ _ h => h) (Or.inl ⟨by rfl, ?_⟩) ?_ ?_
                    rotate_left
                    · intro w'
                      go_simp
                      with_reducible rfl
                    rotate_left
                    · simp only [Act.put, List.setIfInBounds_toArray, List.set_cons_zero, List.set_cons_succ, i64_w, i32_w]
                      rfl
                    refine pure_ (i := 8) (N := some 50) (v := ?_) (a' := ?_) #[true, true, true, true, true, true, true, true, true, false, false, false, false, false, false, false, false, false, false, false, false, false, false, false, false, false, false] rfl rfl (any_of HT_.out (by kernel_rfl)) (fun _ _ _ h => h) (Or.inl ⟨by rfl, ?_⟩) ?_ ?_
                    rotate_left
                    · intro w'
                      go_simp
                      with_reducible rfl
                    rotate_left
                    · simp only [Act.put, List.setIfInBounds_toArray, List.set_cons_zero, List.set_cons_succ, i64_w, i32_w]
                      rfl
                    refine pure_ (i := 9) (N := some 51) (v := ?_) (a' := ?_) #[true, true, true, true, true, true, true, true, true, true, false, false, false, false, false, false, false, false, false, false, false, false, false, false, false, false, false] rfl rfl (any_of HT_.out (by kernel_rfl)) (fun _ _ _ h => h) (Or.inl ⟨by rfl, ?_⟩) ?_ ?_
                    rotate_left
                    · intro w'
                      go_simp
                      with_reducible rfl
                    rotate_left
                    · simp only [Act.put, List.setIfInBounds_toArray, List.set_cons_zero, List.set_cons_succ, i64_w, i32_w]
                      rfl
                    refine take_ (i := 10) (N := some 52) (v := ?_) (a' := ?_) #[true, true, true, true, true, true, true, true, true, true, true, false, false, false, false, false, false, false, false, false, false, false, false, false, false, false, false] rfl rfl (take_ofW HT_.out HW_.out (by kernel_rfl)) (fun _ _ _ h => h) (Or.inl ⟨by rfl, ?_⟩) hHeld ?_ ?_
                    rotate_left
                    · rintro w' ⟨s0, s1, s2, s3, s4, s5⟩
                      go_simp
                      with_reducible rfl
                    rotate_left
                    · simp only [Act.put, List.setIfInBounds_toArray, List.set_cons_zero, List.set_cons_succ, i64_w, i32_w]
                      rfl
                    refine pure_ (i := 11) (N := some 53) (v := ?_) (a' := ?_) #[true, true, true, true, true, true, true, true, true, true, true, true, false, false, false, false, false, false, false, false, false, false, false, false, false, false, false] rfl rfl (any_of HT_.out (by kernel_rfl)) (fun _ _ _ h => h) (Or.inl ⟨by rfl, ?_⟩) ?_ ?_
                    rotate_left
                    · intro w'
                      go_simp
                      with_reducible rfl
                    rotate_left
                    · simp only [Act.put, List.setIfInBounds_toArray, List.set_cons_zero, List.set_cons_succ, i64_w, i32_w]
                      rfl
                    refine pure_ (i := 12) (N := some 54) (v := ?_) (a' := ?_) #[true, true, true, true, true, true, true, true, true, true, true, true, true, false, false, false, false, false, false, false, false, false, false, false, false, false, false] rfl rfl (any_of HT_.out (by kernel_rfl)) (fun _ _ _ h => h) (Or.inl ⟨by rfl, ?_⟩) ?_ ?_
                    rotate_left
                    · intro w'
                      go_simp
                      with_reducible rfl
                    rotate_left
                    · simp only [Act.put, List.setIfInBounds_toArray, List.set_cons_zero, List.set_cons_succ, i64_w, i32_w]
                      rfl
                    refine pure_ (i := 13) (N := some 55) (v := undef) (a' := ?_) #[true, true, true, true, true, true, true, true, true, true, true, true, true, true, false, false, false, false, false, false, false, false, false, false, false, false, false] rfl rfl (any_of HT_.out (by kernel_rfl)) (fun _ _ _ h => h) (Or.inr ⟨by rfl, rfl⟩) ?_ ?_
                    rotate_left
                    · simp only [Act.put, List.setIfInBounds_toArray, List.set_cons_zero, List.set_cons_succ, i64_w, i32_w]
                      rfl
                    refine pure_ (i := 14) (N := some 56) (v := undef) (a' := ?_) #[true, true, true, true, true, true, true, true, true, true, true, true, true, true, true, false, false, false, false, false, false, false, false, false, false, false, false] rfl rfl (any_of HT_.out (by kernel_rfl)) (fun _ _ _ h => h) (Or.inr ⟨by rfl, rfl⟩) ?_ ?_
                    rotate_left
                    · simp only [Act.put, List.setIfInBounds_toArray, List.set_cons_zero, List.set_cons_succ, i64_w, i32_w]
                      rfl
                    refine pure_ (i := 15) (N := some 57) (v := undef) (a' := ?_) #[true, true, true, true, true, true, true, true, true, true, true, true, true, true, true, true, false, false, false, false, false, false, false, false, false, false, false] rfl rfl (any_of HT_.out (by kernel_rfl)) (fun _ _ _ h => h) (Or.inr ⟨by rfl, rfl⟩) ?_ ?_
                    rotate_left
                    · simp only [Act.put, List.setIfInBounds_toArray, List.set_cons_zero, List.set_cons_succ, i64_w, i32_w]
                      rfl
                    refine pure_ (i := 16) (N := some 58) (v := undef) (a' := ?_) #[true, true, true, true, true, true, true, true, true, true, true, true, true, true, true, true, true, false, false, false, false, false, false, false, false, false, false] rfl rfl (any_of HT_.out (by kernel_rfl)) (fun _ _ _ h => h) (Or.inr ⟨by rfl, rfl⟩) ?_ ?_
                    rotate_left
                    · simp only [Act.put, List.setIfInBounds_toArray, List.set_cons_zero, List.set_cons_succ, i64_w, i32_w]
                      rfl
                    refine pure_ (i := 17) (N := some 59) (v := undef) (a' := ?_) #[true, true, true, true, true, true, true, true, true, true, true, true, true, true, true, true, true, true, false, false, false, false, false, false, false, false, false] rfl rfl (any_of HT_.out (by kernel_rfl)) (fun _ _ _ h => h) (Or.inr ⟨by rfl, rfl⟩) ?_ ?_
                    rotate_left
                    · simp only [Act.put, List.setIfInBounds_toArray, List.set_cons_zero, List.set_cons_succ, i64_w, i32_w]
                      rfl
                    refine pure_ (i := 18) (N := some 60) (v := undef) (a' := ?_) #[true, true, true, true, true, true, true, true, true, true, true, true, true, true, true, true, true, true, true, false, false, false, false, false, false, false, false] rfl rfl (any_of HT_.out (by kernel_rfl)) (fun _ _ _ h => h) (Or.inr ⟨by rfl, rfl⟩) ?_ ?_
                    rotate_left
                    · simp only [Act.put, List.setIfInBounds_toArray, List.set_cons_zero, List.set_cons_succ, i64_w, i32_w]
                      rfl
                    refine pure_ (i := 19) (N := some 61) (v := ?_) (a' := ?_) #[true, true, true, true, true, true, true, true, true, true, true, true, true, true, true, true, true, true, true, true, false, false, false, false, false, false, false] rfl rfl (any_of HT_.out (by kernel_rfl)) (fun _ _ _ h => h) (Or.inl ⟨by rfl, ?_⟩) ?_ ?_
                    rotate_left
                    · intro w'
                      go_simp
                      with_reducible rfl
                    rotate_left
                    · simp only [Act.put, List.setIfInBounds_toArray, List.set_cons_zero, List.set_cons_succ, i64_w, i32_w]
                      rfl
                    refine pure_ (i := 20) (N := some 62) (v := ?_) (a' := ?_) #[true, true, true, true, true, true, true, true, true, true, true, true, true, true, true, true, true, true, true, true, true, false, false, false, false, false, false] rfl rfl (any_of HT_.out (by kernel_rfl)) (fun _ _ _ h => h) (Or.inl ⟨by rfl, ?_⟩) ?_ ?_
                    rotate_left
                    · intro w'
                      go_simp
                      with_reducible rfl
                    rotate_left
                    · simp only [Act.put, List.setIfInBounds_toArray, List.set_cons_zero, List.set_cons_succ, i64_w, i32_w]
                      rfl
                    refine pure_ (i := 21) (N := some 63) (v := ?_) (a' := ?_) #[true, true, true, true, true, true, true, true, true, true, true, true, true, true, true, true, true, true, true, true, true, true, false, false, false, false, false] rfl rfl (any_of HT_.out (by kernel_rfl)) (fun _ _ _ h => h) (Or.inl ⟨by rfl, ?_⟩) ?_ ?_
                    rotate_left
                    · intro w'
                      go_simp
                      with_reducible rfl
                    rotate_left
                    · simp only [Act.put, List.setIfInBounds_toArray, List.set_cons_zero, List.set_cons_succ, i64_w, i32_w]
                      rfl
                    refine pure_ (i := 22) (N := some 64) (v := ?_) (a' := ?_) #[true, true, true, true, true, true, true, true, true, true, true, true, true, true, true, true, true, true, true, true, true, true, true, false, false, false, false] rfl rfl (any_of HT_.out (by kernel_rfl)) (fun _ _ _ h => h) (Or.inl ⟨by rfl, ?_⟩) ?_ ?_
                    rotate_left
                    · intro w'
                      go_simp
                      with_reducible rfl
                    rotate_left
                    · simp only [Act.put, List.setIfInBounds_toArray, List.set_cons_zero, List.set_cons_succ, i64_w, i32_w]
                      rfl
                    refine pure_ (i := 24) (N := some 66) (v := ?_) (a' := ?_) #[true, true, true, true, true, true, true, true, true, true, true, true, true, true, true, true, true, true, true, true, true, true, true, false, true, false, false] rfl rfl (any_of HT_.out (by kernel_rfl)) (fun _ _ _ h => h) (Or.inl ⟨by rfl, ?_⟩) ?_ ?_
                    rotate_left
                    · intro w'
                      go_simp
                      with_reducible rfl
                    rotate_left
                    · simp only [Act.put, List.setIfInBounds_toArray, List.set_cons_zero, List.set_cons_succ, i64_w, i32_w]
                      rfl
                    refine take_ (i := 23) (N := some 65) (v := ?_) (a' := ?_) #[true, true, true, true, true, true, true, true, true, true, true, true, true, true, true, true, true, true, true, true, true, true, true, true, true, false, false] rfl rfl (take_ofW HT_.out HW_.out (by kernel_rfl)) (fun _ _ _ h => h) (Or.inl ⟨by rfl, ?_⟩) hHeld ?_ ?_
                    rotate_left
                    · rintro w' ⟨s0, s1, s2, s3, s4, s5⟩
                      go_simp
                      with_reducible rfl
                    rotate_left
                    · simp only [Act.put, List.setIfInBounds_toArray, List.set_cons_zero, List.set_cons_succ, i64_w, i32_w]
                      rfl
                    refine pure_ (i := 25) (N := some 67) (v := ?_) (a' := ?_) #[true, true, true, true, true, true, true, true, true, true, true, true, true, true, true, true, true, true, true, true, true, true, true, true, true, true, false] rfl rfl (any_of HT_.out (by kernel_rfl)) (fun _ _ _ h => h) (Or.inl ⟨by rfl, ?_⟩) ?_ ?_
                    rotate_left
                    · intro w'
                      go_simp
                      with_reducible rfl
                    rotate_left
                    · simp only [Act.put, List.setIfInBounds_toArray, List.set_cons_zero, List.set_cons_succ, i64_w, i32_w]
                      rfl
                    refine pure_ (i := 26) (N := some 68) (v := ?_) (a' := ?_) #[true, true, true, true, true, true, true, true, true, true, true, true, true, true, true, true, true, true, true, true, true, true, true, true, true, true, true] rfl rfl (any_of HT_.out (by kernel_rfl)) (fun _ _ _ h => h) (Or.inl ⟨by rfl, ?_⟩) ?_ ?_
                    rotate_left
                    · intro w'
                      go_simp
                      with_reducible rfl
                    rotate_left
                    · simp only [Act.put, List.setIfInBounds_toArray, List.set_cons_zero, List.set_cons_succ, i64_w, i32_w]
                      rfl
                    refine done_ (done_of HT_.out (by kernel_rfl)) ?_
                    try go_wp2
                    go_meet
                    case rel => exact ⟨_, (decide (t167 > (wrap64 ((wrap64 (Int.tmod a1 20)) + 1)))), (by first | rfl | (simp; done) | (simp [*]; done)), H', ⟨by have := HK1.out; first | omega | exact Nat.le_refl _⟩, ⟨by (with_reducible repeat (first | refine blk_drewN ?_ _ | refine blk_drew ?_ | refine blk_alloc ?_ _)); exact BK162.out⟩, ⟨by (with_reducible repeat (first | refine blk_drewN ?_ _ | refine blk_drew ?_ | refine blk_alloc ?_ _)); exact BK164.out⟩, ⟨by (with_reducible repeat (first | refine blk_drewN ?_ _ | refine blk_drew ?_ | refine blk_alloc ?_ _)); exact BK165.out⟩, ⟨by repeat (first | (with_reducible first | exact HB.out | apply below_alloc | apply pw_below_drewN | apply below_drew1 | refine below_set ?_ GE162.out | refine below_set ?_ GE164.out | refine below_set ?_ GE165.out) | exact HB.out)⟩⟩
                · rw [if_neg c28] at H
                  have c28b0 : (((rd_T26 l0 x8_1).f0) == 0) = false := beq_eq_false_iff_ne.mpr c28
                  have c28b1 : (((rd_T26 l0 x8_1).f0) != 0) = true := bne_iff_ne.mpr c28
                  (first | rw [c28b0] | (simp only [i64_w, i32_w]; rw [c28b0]) | skip)
                  replace H := Option.bind_eq_some_iff.mp H
                  obtain ⟨t170, A370, H⟩ := H
                  replace H : (if t170 = true then (paternosterlaw20_TurnReady.j1 k1 l0 (wrap64 ((wrap64 (Int.tmod a1 20)) + 1)) x8_1 (decide (t167 > (wrap64 ((wrap64 (Int.tmod a1 20)) + 1)))) t166 t167 ((rd_T26 l0 x8_1).f0) ((rd_T26 l0 x8_1).f1) ((rd_T26 l0 x8_1).f2) ((rd_T26 l0 x8_1).f3) x163000_1 x163001_1) else (paternosterlaw20_TurnReady.j1 k1 l0 (wrap64 ((wrap64 (Int.tmod a1 20)) + 1)) x8_1 true t166 t167 ((rd_T26 l0 x8_1).f0) ((rd_T26 l0 x8_1).f1) ((rd_T26 l0 x8_1).f2) ((rd_T26 l0 x8_1).f3) x163000_1 x163001_1)) = some r := H
                  have A37 := Aside0.mk A370
                  clear A370
                  by_cases c38 : t170 = true
                  · subst c38
                    have H1 : (paternosterlaw20_TurnReady.j1 k1 l0 (wrap64 ((wrap64 (Int.tmod a1 20)) + 1)) x8_1 (decide (t167 > (wrap64 ((wrap64 (Int.tmod a1 20)) + 1)))) t166 t167 ((rd_T26 l0 x8_1).f0) ((rd_T26 l0 x8_1).f1) ((rd_T26 l0 x8_1).f2) ((rd_T26 l0 x8_1).f3) x163000_1 x163001_1) = some r := by rw [if_pos rfl] at H; exact H
                    clear H
                    have H := H1
                    clear H1
                    have H' := Aside0.mk H
                    clear H
                    try go_wp2
                    have n0_ : Aside0 (((w26.setCell ⟨gb162, 0, none⟩ (.int .i64 t166)).setCell ⟨gb162, 1, none⟩ (.int .i64 t167)).heap[gb162]? = some (.cells #[.int .i64 t166, .int .i64 t167] 23 (0, 0))) := ⟨by (with_reducible repeat (first | refine blk_drewN ?_ _ | refine blk_drew ?_ | refine blk_alloc ?_ _)); refine blk_put (cs := #[.int .i64 t166, .int .i64 x163001_1]) ?_ 1 _ rfl; (with_reducible repeat (first | refine blk_drewN ?_ _ | refine blk_drew ?_ | refine blk_alloc ?_ _)); refine blk_put (cs := #[.int .i64 x163000_1, .int .i64 x163001_1]) ?_ 0 _ rfl; (with_reducible repeat (first | refine blk_drewN ?_ _ | refine blk_drew ?_ | refine blk_alloc ?_ _)); exact BK162.out⟩
                    have n1_ : Aside0 (((w26.setCell ⟨gb162, 0, none⟩ (.int .i64 t166)).setCell ⟨gb162, 1, none⟩ (.int .i64 t167)).heap[gb164]? = some (.cells #[.int .u64 ((rd_T26 l0 x8_1).f0), .bool ((rd_T26 l0 x8_1).f1), .bool ((rd_T26 l0 x8_1).f2), .int .i64 ((rd_T26 l0 x8_1).f3)] 26 (0, 0))) := ⟨by (with_reducible repeat (first | refine blk_drewN ?_ _ | refine blk_drew ?_ | refine blk_alloc ?_ _)); refine blk_far ?_ NB164_162.out _; (with_reducible repeat (first | refine blk_drewN ?_ _ | refine blk_drew ?_ | refine blk_alloc ?_ _)); refine blk_far ?_ NB164_162.out _; (with_reducible repeat (first | refine blk_drewN ?_ _ | refine blk_drew ?_ | refine blk_alloc ?_ _)); exact BK164.out⟩
                    have n2_ : Aside0 (((w26.setCell ⟨gb162, 0, none⟩ (.int .i64 t166)).setCell ⟨gb162, 1, none⟩ (.int .i64 t167)).heap[gb165]? = some (.cells #[.int .i64 x163000_1, .int .i64 x163001_1] 23 (0, 0))) := ⟨by (with_reducible repeat (first | refine blk_drewN ?_ _ | refine blk_drew ?_ | refine blk_alloc ?_ _)); refine blk_far ?_ NB165_162.out _; (with_reducible repeat (first | refine blk_drewN ?_ _ | refine blk_drew ?_ | refine blk_alloc ?_ _)); refine blk_far ?_ NB165_162.out _; (with_reducible repeat (first | refine blk_drewN ?_ _ | refine blk_drew ?_ | refine blk_alloc ?_ _)); exact BK165.out⟩
                    have n3_ : Aside0 (Below w.heap.size w ((w26.setCell ⟨gb162, 0, none⟩ (.int .i64 t166)).setCell ⟨gb162, 1, none⟩ (.int .i64 t167))) := ⟨by repeat (first | (with_reducible first | exact HB.out | apply below_alloc | apply pw_below_drewN | apply below_drew1 | refine below_set ?_ GE162.out | refine below_set ?_ GE164.out | refine below_set ?_ GE165.out) | exact HB.out)⟩
                    (try clear BK162)
                    (try clear BK164)
                    (try clear BK165)
                    (try clear HB)
                    generalize ((w26.setCell ⟨gb162, 0, none⟩ (.int .i64 t166)).setCell ⟨gb162, 1, none⟩ (.int .i64 t167)) = w39 at n0_ n1_ n2_ n3_ ⊢
                    have BK162 := n0_
                    have BK164 := n1_
                    have BK165 := n2_
                    have HB := n3_
                    clear n0_ n1_ n2_ n3_
                    have n0_ := Aside0.mk (blk_drew BK162.out)
                    have n1_ := Aside0.mk (blk_drew BK164.out)
                    have n2_ := Aside0.mk (blk_drew BK165.out)
                    have n3_ := Aside0.mk (below_drew1 HB.out)
                    clear BK162
                    clear BK164
                    clear BK165
                    clear HB
                    have BK162 := n0_
                    have BK164 := n1_
                    have BK165 := n2_
                    have HB := n3_
                    clear n0_ n1_ n2_ n3_
                    refine start_ (n := 27) (S := fun w' => w'.cell? ⟨gb164, 0, none⟩ = some (.int .u64 ((rd_T26 l0 x8_1).f0)) ∧ w'.cell? ⟨gb164, 1, none⟩ = some (.bool ((rd_T26 l0 x8_1).f1)) ∧ w'.cell? ⟨gb164, 2, none⟩ = some (.bool ((rd_T26 l0 x8_1).f2)) ∧ w'.cell? ⟨gb164, 3, none⟩ = some (.int .i64 ((rd_T26 l0 x8_1).f3)) ∧ w'.cell? ⟨gb162, 0, none⟩ = some (.int .i64 t166) ∧ w'.cell? ⟨gb162, 1, none⟩ = some (.int .i64 t167)) (ds := []) #[false, false, false, false, false, false, false, false, false, false, false, false, false, false, false, false, false, false, false, false, false, false, false, false, false, false, false] (by kernel_rfl) rfl rfl ⟨(blk_cell BK164.out 0).trans rfl, (blk_cell BK164.out 1).trans rfl, (blk_cell BK164.out 2).trans rfl, (blk_cell BK164.out 3).trans rfl, (blk_cell BK162.out 0).trans rfl, (blk_cell BK162.out 1).trans rfl⟩ (fun hHeld => ?_); refine with_tabW paternosterlaw20_TurnReady.tab14 paternosterlaw20_TurnReady.bits14 (fun HT_ HW_ => ?_)
                    generalize w39.drew = w40 at BK162 BK164 BK165 HB hHeld ⊢
                    refine pure_ (i := 0) (N := some 42) (v := ?_) (a' := ?_) #[true, false, false, false, false, false, false, false, false, false, false, false, false, false, false, false, false, false, false, false, false, false, false, false, false, false, false] rfl rfl (any_of HT_.out (by kernel_rfl)) (fun _ _ _ h => h) (Or.inl ⟨by rfl, ?_⟩) ?_ ?_
                    rotate_left
                    · intro w'
                      go_simp
                      with_reducible rfl
                    rotate_left
                    · simp only [Act.put, List.setIfInBounds_toArray, List.set_cons_zero, List.set_cons_succ, i64_w, i32_w]
                      rfl
                    refine take_ (i := 1) (N := some 43) (v := ?_) (a' := ?_) #[true, true, false, false, false, false, false, false, false, false, false, false, false, false, false, false, false, false, false, false, false, false, false, false, false, false, false] rfl rfl (take_ofW HT_.out HW_.out (by kernel_rfl)) (fun _ _ _ h => h) (Or.inl ⟨by rfl, ?_⟩) hHeld ?_ ?_
                    rotate_left
                    · rintro w' ⟨s0, s1, s2, s3, s4, s5⟩
                      go_simp
                      with_reducible rfl
                    rotate_left
                    · simp only [Act.put, List.setIfInBounds_toArray, List.set_cons_zero, List.set_cons_succ, i64_w, i32_w]
                      rfl
                    refine pure_ (i := 2) (N := some 44) (v := ?_) (a' := ?_) #[true, true, true, false, false, false, false, false, false, false, false, false, false, false, false, false, false, false, false, false, false, false, false, false, false, false, false] rfl rfl (any_of HT_.out (by kernel_rfl)) (fun _ _ _ h => h) (Or.inl ⟨by rfl, ?_⟩) ?_ ?_
                    rotate_left
                    · intro w'
                      go_simp
                      with_reducible rfl
                    rotate_left
                    · simp only [Act.put, List.setIfInBounds_toArray, List.set_cons_zero, List.set_cons_succ, i64_w, i32_w]
                      rfl
                    refine pure_ (i := 3) (N := some 45) (v := ?_) (a' := ?_) #[true, true, true, true, false, false, false, false, false, false, false, false, false, false, false, false, false, false, false, false, false, false, false, false, false, false, false] rfl rfl (any_of HT_.out (by kernel_rfl)) (fun _ _ _ h => h) (Or.inl ⟨by rfl, ?_⟩) ?_ ?_
                    rotate_left
                    · intro w'
                      go_simp
                      with_reducible rfl
                    rotate_left
                    · simp only [Act.put, List.setIfInBounds_toArray, List.set_cons_zero, List.set_cons_succ, i64_w, i32_w]
                      rfl
                    refine pure_ (i := 4) (N := some 46) (v := undef) (a' := ?_) #[true, true, true, true, true, false, false, false, false, false, false, false, false, false, false, false, false, false, false, false, false, false, false, false, false, false, false] rfl rfl (any_of HT_.out (by kernel_rfl)) (fun _ _ _ h => h) (Or.inr ⟨by rfl, rfl⟩) ?_ ?_
                    rotate_left
                    · simp only [Act.put, List.setIfInBounds_toArray, List.set_cons_zero, List.set_cons_succ, i64_w, i32_w]
                      rfl
                    refine pure_ (i := 5) (N := some 47) (v := undef) (a' := ?_) #[true, true, true, true, true, true, false, false, false, false, false, false, false, false, false, false, false, false, false, false, false, false, false, false, false, false, false] rfl rfl (any_of HT_.out (by kernel_rfl)) (fun _ _ _ h => h) (Or.inr ⟨by rfl, rfl⟩) ?_ ?_
                    rotate_left
                    · simp only [Act.put, List.setIfInBounds_toArray, List.set_cons_zero, List.set_cons_succ, i64_w, i32_w]
                      rfl
                    refine pure_ (i := 6) (N := some 48) (v := undef) (a' := ?_) #[true, true, true, true, true, true, true, false, false, false, false, false, false, false, false, false, false, false, false, false, false, false, false, false, false, false, false] rfl rfl (any_of HT_.out (by kernel_rfl)) (fun _ _ _ h => h) (Or.inr ⟨by rfl, rfl⟩) ?_ ?_
                    rotate_left
                    · simp only [Act.put, List.setIfInBounds_toArray, List.set_cons_zero, List.set_cons_succ, i64_w, i32_w]
                      rfl
                    refine pure_ (i := 7) (N := some 49) (v := ?_) (a' := ?_) #[true, true, true, true, true, true, true, true, false, false, false, false, false, false, false, false, false, false, false, false, false, false, false, false, false, false, false] rfl rfl (any_of HT_.out (by kernel_rfl)) (fun _ _ _ h => h) (Or.inl ⟨by rfl, ?_⟩) ?_ ?_
                    rotate_left
                    · intro w'
                      go_simp
                      with_reducible rfl
                    rotate_left
                    · simp only [Act.put, List.setIfInBounds_toArray, List.set_cons_zero, List.set_cons_succ, i64_w, i32_w]
                      rfl
                    refine pure_ (i := 8) (N := some 50) (v := ?_) (a' := ?_) #[true, true, true, true, true, true, true, true, true, false, false, false, false, false, false, false, false, false, false, false, false, false, false, false, false, false, false] rfl rfl (any_of HT_.out (by kernel_rfl)) (fun _ _ _ h => h) (Or.inl ⟨by rfl, ?_⟩) ?_ ?_
                    rotate_left
                    · intro w'
                      go_simp
                      with_reducible rfl
                    rotate_left
                    · simp only [Act.put, List.setIfInBounds_toArray, List.set_cons_zero, List.set_cons_succ, i64_w, i32_w]
                      rfl
                    refine pure_ (i := 9) (N := some 51) (v := ?_) (a' := ?_) #[true, true, true, true, true, true, true, true, true, true, false, false, false, false, false, false, false, false, false, false, false, false, false, false, false, false, false] rfl rfl (any_of HT_.out (by kernel_rfl)) (fun _ _ _ h => h) (Or.inl ⟨by rfl, ?_⟩) ?_ ?_
                    rotate_left
                    · intro w'
                      go_simp
                      with_reducible rfl
                    rotate_left
                    · simp only [Act.put, List.setIfInBounds_toArray, List.set_cons_zero, List.set_cons_succ, i64_w, i32_w]
                      rfl
                    refine take_ (i := 10) (N := some 52) (v := ?_) (a' := ?_) #[true, true, true, true, true, true, true, true, true, true, true, false, false, false, false, false, false, false, false, false, false, false, false, false, false, false, false] rfl rfl (take_ofW HT_.out HW_.out (by kernel_rfl)) (fun _ _ _ h => h) (Or.inl ⟨by rfl, ?_⟩) hHeld ?_ ?_
                    rotate_left
                    · rintro w' ⟨s0, s1, s2, s3, s4, s5⟩
                      go_simp
                      with_reducible rfl
                    rotate_left
                    · simp only [Act.put, List.setIfInBounds_toArray, List.set_cons_zero, List.set_cons_succ, i64_w, i32_w]
                      rfl
                    refine pure_ (i := 11) (N := some 53) (v := ?_) (a' := ?_) #[true, true, true, true, true, true, true, true, true, true, true, true, false, false, false, false, false, false, false, false, false, false, false, false, false, false, false] rfl rfl (any_of HT_.out (by kernel_rfl)) (fun _ _ _ h => h) (Or.inl ⟨by rfl, ?_⟩) ?_ ?_
                    rotate_left
                    · intro w'
                      go_simp
                      with_reducible rfl
                    rotate_left
                    · simp only [Act.put, List.setIfInBounds_toArray, List.set_cons_zero, List.set_cons_succ, i64_w, i32_w]
                      rfl
                    refine pure_ (i := 12) (N := some 54) (v := ?_) (a' := ?_) #[true, true, true, true, true, true, true, true, true, true, true, true, true, false, false, false, false, false, false, false, false, false, false, false, false, false, false] rfl rfl (any_of HT_.out (by kernel_rfl)) (fun _ _ _ h => h) (Or.inl ⟨by rfl, ?_⟩) ?_ ?_
                    rotate_left
                    · intro w'
                      go_simp
                      with_reducible rfl
                    rotate_left
                    · simp only [Act.put, List.setIfInBounds_toArray, List.set_cons_zero, List.set_cons_succ, i64_w, i32_w]
                      rfl
                    refine pure_ (i := 13) (N := some 55) (v := ?_) (a' := ?_) #[true, true, true, true, true, true, true, true, true, true, true, true, true, true, false, false, false, false, false, false, false, false, false, false, false, false, false] rfl rfl (any_of HT_.out (by kernel_rfl)) (fun _ _ _ h => h) (Or.inl ⟨by rfl, ?_⟩) ?_ ?_
                    rotate_left
                    · intro w'
                      go_simp
                      with_reducible rfl
                    rotate_left
                    · simp only [Act.put, List.setIfInBounds_toArray, List.set_cons_zero, List.set_cons_succ, i64_w, i32_w]
                      rfl
                    refine pure_ (i := 15) (N := some 57) (v := ?_) (a' := ?_) #[true, true, true, true, true, true, true, true, true, true, true, true, true, true, false, true, false, false, false, false, false, false, false, false, false, false, false] rfl rfl (any_of HT_.out (by kernel_rfl)) (fun _ _ _ h => h) (Or.inl ⟨by rfl, ?_⟩) ?_ ?_
                    rotate_left
                    · intro w'
                      go_simp
                      with_reducible rfl
                    rotate_left
                    · simp only [Act.put, List.setIfInBounds_toArray, List.set_cons_zero, List.set_cons_succ, i64_w, i32_w]
                      rfl
                    refine take_ (i := 14) (N := some 56) (v := ?_) (a' := ?_) #[true, true, true, true, true, true, true, true, true, true, true, true, true, true, true, true, false, false, false, false, false, false, false, false, false, false, false] rfl rfl (take_ofW HT_.out HW_.out (by kernel_rfl)) (fun _ _ _ h => h) (Or.inl ⟨by rfl, ?_⟩) hHeld ?_ ?_
                    rotate_left
                    · rintro w' ⟨s0, s1, s2, s3, s4, s5⟩
                      go_simp
                      with_reducible rfl
                    rotate_left
                    · simp only [Act.put, List.setIfInBounds_toArray, List.set_cons_zero, List.set_cons_succ, i64_w, i32_w]
                      rfl
                    refine take_ (i := 16) (N := some 58) (v := ?_) (a' := ?_) #[true, true, true, true, true, true, true, true, true, true, true, true, true, true, true, true, true, false, false, false, false, false, false, false, false, false, false] rfl rfl (take_ofW HT_.out HW_.out (by kernel_rfl)) (fun _ _ _ h => h) (Or.inl ⟨by rfl, ?_⟩) hHeld ?_ ?_
                    rotate_left
                    · rintro w' ⟨s0, s1, s2, s3, s4, s5⟩
                      go_simp
                      with_reducible rfl
                    rotate_left
                    · simp only [Act.put, List.setIfInBounds_toArray, List.set_cons_zero, List.set_cons_succ, i64_w, i32_w]
                      rfl
                    refine one_ (i := 17) (N := some 59) #[true, true, true, true, true, true, true, true, true, true, true, true, true, true, true, true, true, true, false, false, false, false, false, false, false, false, false] rfl rfl (one_of HT_.out (by kernel_rfl)) (by decide) (fun K hK => ?_)
                    refine goes_ Tryd.func13 (by kernel_rfl) rfl #[.int .u64 ((rd_T26 l0 x8_1).f0), .int .i64 t166] (by rfl) rfl rfl (by (try simp only [List.map_toArray, List.map_cons, List.map_nil]); first | done | rfl | (simp only [List.length_drop, List.length_take]; rfl)) ?_
                    with_reducible refine (order_Has.calls ((rd_T26 l0 x8_1).f0) t166 true _ A37.out).mono ?_
                    rintro e w' ⟨rfl, ⟨nd, rfl⟩⟩
                    refine ⟨_, rfl, ?_⟩
                    refine hK.out _ _ ⟨(blk_cell BK164.out 0).trans rfl, (blk_cell BK164.out 1).trans rfl, (blk_cell BK164.out 2).trans rfl, (blk_cell BK164.out 3).trans rfl, (blk_cell BK162.out 0).trans rfl, (blk_cell BK162.out 1).trans rfl⟩ (fun hHeld => ?_)
                    clear hK K
                    refine norm_ (a' := ?_) ?_ ?_
                    rotate_left
                    · show Act.put _ (some 59) _ = _
                      simp only [Act.put, List.setIfInBounds_toArray, List.set_cons_zero, List.set_cons_succ, i64_w, i32_w]
                      rfl
                    refine pure_ (i := 18) (N := some 60) (v := ?_) (a' := ?_) #[true, true, true, true, true, true, true, true, true, true, true, true, true, true, true, true, true, true, true, false, false, false, false, false, false, false, false] rfl rfl (any_of HT_.out (by kernel_rfl)) (fun _ _ _ h => h) (Or.inl ⟨by rfl, ?_⟩) ?_ ?_
                    rotate_left
                    · intro w'
                      go_simp
                      with_reducible rfl
                    rotate_left
                    · simp only [Act.put, List.setIfInBounds_toArray, List.set_cons_zero, List.set_cons_succ, i64_w, i32_w]
                      rfl
                    refine pure_ (i := 19) (N := some 61) (v := ?_) (a' := ?_) #[true, true, true, true, true, true, true, true, true, true, true, true, true, true, true, true, true, true, true, true, false, false, false, false, false, false, false] rfl rfl (any_of HT_.out (by kernel_rfl)) (fun _ _ _ h => h) (Or.inl ⟨by rfl, ?_⟩) ?_ ?_
                    rotate_left
                    · intro w'
                      go_simp
                      with_reducible rfl
                    rotate_left
                    · simp only [Act.put, List.setIfInBounds_toArray, List.set_cons_zero, List.set_cons_succ, i64_w, i32_w]
                      rfl
                    refine pure_ (i := 20) (N := some 62) (v := ?_) (a' := ?_) #[true, true, true, true, true, true, true, true, true, true, true, true, true, true, true, true, true, true, true, true, true, false, false, false, false, false, false] rfl rfl (any_of HT_.out (by kernel_rfl)) (fun _ _ _ h => h) (Or.inl ⟨by rfl, ?_⟩) ?_ ?_
                    rotate_left
                    · intro w'
                      go_simp
                      with_reducible rfl
                    rotate_left
                    · simp only [Act.put, List.setIfInBounds_toArray, List.set_cons_zero, List.set_cons_succ, i64_w, i32_w]
                      rfl
                    refine pure_ (i := 21) (N := some 63) (v := ?_) (a' := ?_) #[true, true, true, true, true, true, true, true, true, true, true, true, true, true, true, true, true, true, true, true, true, true, false, false, false, false, false] rfl rfl (any_of HT_.out (by kernel_rfl)) (fun _ _ _ h => h) (Or.inl ⟨by rfl, ?_⟩) ?_ ?_
                    rotate_left
                    · intro w'
                      go_simp
                      with_reducible rfl
                    rotate_left
                    · simp only [Act.put, List.setIfInBounds_toArray, List.set_cons_zero, List.set_cons_succ, i64_w, i32_w]
                      rfl
                    refine pure_ (i := 22) (N := some 64) (v := ?_) (a' := ?_) #[true, true, true, true, true, true, true, true, true, true, true, true, true, true, true, true, true, true, true, true, true, true, true, false, false, false, false] rfl rfl (any_of HT_.out (by kernel_rfl)) (fun _ _ _ h => h) (Or.inl ⟨by rfl, ?_⟩) ?_ ?_
                    rotate_left
                    · intro w'
                      go_simp
                      with_reducible rfl
                    rotate_left
                    · simp only [Act.put, List.setIfInBounds_toArray, List.set_cons_zero, List.set_cons_succ, i64_w, i32_w]
                      rfl
                    refine pure_ (i := 24) (N := some 66) (v := ?_) (a' := ?_) #[true, true, true, true, true, true, true, true, true, true, true, true, true, true, true, true, true, true, true, true, true, true, true, false, true, false, false] rfl rfl (any_of HT_.out (by kernel_rfl)) (fun _ _ _ h => h) (Or.inl ⟨by rfl, ?_⟩) ?_ ?_
                    rotate_left
                    · intro w'
                      go_simp
                      with_reducible rfl
                    rotate_left
                    · simp only [Act.put, List.setIfInBounds_toArray, List.set_cons_zero, List.set_cons_succ, i64_w, i32_w]
                      rfl
                    refine take_ (i := 23) (N := some 65) (v := ?_) (a' := ?_) #[true, true, true, true, true, true, true, true, true, true, true, true, true, true, true, true, true, true, true, true, true, true, true, true, true, false, false] rfl rfl (take_ofW HT_.out HW_.out (by kernel_rfl)) (fun _ _ _ h => h) (Or.inl ⟨by rfl, ?_⟩) hHeld ?_ ?_
                    rotate_left
                    · rintro w' ⟨s0, s1, s2, s3, s4, s5⟩
                      go_simp
                      with_reducible rfl
                    rotate_left
                    · simp only [Act.put, List.setIfInBounds_toArray, List.set_cons_zero, List.set_cons_succ, i64_w, i32_w]
                      rfl
                    refine pure_ (i := 25) (N := some 67) (v := ?_) (a' := ?_) #[true, true, true, true, true, true, true, true, true, true, true, true, true, true, true, true, true, true, true, true, true, true, true, true, true, true, false] rfl rfl (any_of HT_.out (by kernel_rfl)) (fun _ _ _ h => h) (Or.inl ⟨by rfl, ?_⟩) ?_ ?_
                    rotate_left
                    · intro w'
                      go_simp
                      with_reducible rfl
                    rotate_left
                    · simp only [Act.put, List.setIfInBounds_toArray, List.set_cons_zero, List.set_cons_succ, i64_w, i32_w]
                      rfl
                    refine pure_ (i := 26) (N := some 68) (v := ?_) (a' := ?_) #[true, true, true, true, true, true, true, true, true, true, true, true, true, true, true, true, true, true, true, true, true, true, true, true, true, true, true] rfl rfl (any_of HT_.out (by kernel_rfl)) (fun _ _ _ h => h) (Or.inl ⟨by rfl, ?_⟩) ?_ ?_
                    rotate_left
                    · intro w'
                      go_simp
                      with_reducible rfl
                    rotate_left
                    · simp only [Act.put, List.setIfInBounds_toArray, List.set_cons_zero, List.set_cons_succ, i64_w, i32_w]
                      rfl
                    refine done_ (done_of HT_.out (by kernel_rfl)) ?_
                    try go_wp2
                    go_meet
                    case rel => exact ⟨_, (decide (t167 > (wrap64 ((wrap64 (Int.tmod a1 20)) + 1)))), (by first | rfl | (simp; done) | (simp [*]; done)), H', ⟨by have := HK1.out; first | omega | exact Nat.le_refl _⟩, ⟨by (with_reducible repeat (first | refine blk_drewN ?_ _ | refine blk_drew ?_ | refine blk_alloc ?_ _)); exact BK162.out⟩, ⟨by (with_reducible repeat (first | refine blk_drewN ?_ _ | refine blk_drew ?_ | refine blk_alloc ?_ _)); exact BK164.out⟩, ⟨by (with_reducible repeat (first | refine blk_drewN ?_ _ | refine blk_drew ?_ | refine blk_alloc ?_ _)); exact BK165.out⟩, ⟨by repeat (first | (with_reducible first | exact HB.out | apply below_alloc | apply pw_below_drewN | apply below_drew1 | refine below_set ?_ GE162.out | refine below_set ?_ GE164.out | refine below_set ?_ GE165.out) | exact HB.out)⟩⟩
                  · replace c38 := Bool.eq_false_iff.mpr c38
                    subst c38
                    have H1 : (paternosterlaw20_TurnReady.j1 k1 l0 (wrap64 ((wrap64 (Int.tmod a1 20)) + 1)) x8_1 true t166 t167 ((rd_T26 l0 x8_1).f0) ((rd_T26 l0 x8_1).f1) ((rd_T26 l0 x8_1).f2) ((rd_T26 l0 x8_1).f3) x163000_1 x163001_1) = some r := by rw [if_neg (show ¬ (false = true) by decide)] at H; exact H
                    clear H
                    have H := H1
                    clear H1
                    have H' := Aside0.mk H
                    clear H
                    try go_wp2
                    have n0_ : Aside0 (((w26.setCell ⟨gb162, 0, none⟩ (.int .i64 t166)).setCell ⟨gb162, 1, none⟩ (.int .i64 t167)).heap[gb162]? = some (.cells #[.int .i64 t166, .int .i64 t167] 23 (0, 0))) := ⟨by (with_reducible repeat (first | refine blk_drewN ?_ _ | refine blk_drew ?_ | refine blk_alloc ?_ _)); refine blk_put (cs := #[.int .i64 t166, .int .i64 x163001_1]) ?_ 1 _ rfl; (with_reducible repeat (first | refine blk_drewN ?_ _ | refine blk_drew ?_ | refine blk_alloc ?_ _)); refine blk_put (cs := #[.int .i64 x163000_1, .int .i64 x163001_1]) ?_ 0 _ rfl; (with_reducible repeat (first | refine blk_drewN ?_ _ | refine blk_drew ?_ | refine blk_alloc ?_ _)); exact BK162.out⟩
                    have n1_ : Aside0 (((w26.setCell ⟨gb162, 0, none⟩ (.int .i64 t166)).setCell ⟨gb162, 1, none⟩ (.int .i64 t167)).heap[gb164]? = some (.cells #[.int .u64 ((rd_T26 l0 x8_1).f0), .bool ((rd_T26 l0 x8_1).f1), .bool ((rd_T26 l0 x8_1).f2), .int .i64 ((rd_T26 l0 x8_1).f3)] 26 (0, 0))) := ⟨by (with_reducible repeat (first | refine blk_drewN ?_ _ | refine blk_drew ?_ | refine blk_alloc ?_ _)); refine blk_far ?_ NB164_162.out _; (with_reducible repeat (first | refine blk_drewN ?_ _ | refine blk_drew ?_ | refine blk_alloc ?_ _)); refine blk_far ?_ NB164_162.out _; (with_reducible repeat (first | refine blk_drewN ?_ _ | refine blk_drew ?_ | refine blk_alloc ?_ _)); exact BK164.out⟩
                    have n2_ : Aside0 (((w26.setCell ⟨gb162, 0, none⟩ (.int .i64 t166)).setCell ⟨gb162, 1, none⟩ (.int .i64 t167)).heap[gb165]? = some (.cells #[.int .i64 x163000_1, .int .i64 x163001_1] 23 (0, 0))) := ⟨by (with_reducible repeat (first | refine blk_drewN ?_ _ | refine blk_drew ?_ | refine blk_alloc ?_ _)); refine blk_far ?_ NB165_162.out _; (with_reducible repeat (first | refine blk_drewN ?_ _ | refine blk_drew ?_ | refine blk_alloc ?_ _)); refine blk_far ?_ NB165_162.out _; (with_reducible repeat (first | refine blk_drewN ?_ _ | refine blk_drew ?_ | refine blk_alloc ?_ _)); exact BK165.out⟩
                    have n3_ : Aside0 (Below w.heap.size w ((w26.setCell ⟨gb162, 0, none⟩ (.int .i64 t166)).setCell ⟨gb162, 1, none⟩ (.int .i64 t167))) := ⟨by repeat (first | (with_reducible first | exact HB.out | apply below_alloc | apply pw_below_drewN | apply below_drew1 | refine below_set ?_ GE162.out | refine below_set ?_ GE164.out | refine below_set ?_ GE165.out) | exact HB.out)⟩
                    (try clear BK162)
                    (try clear BK164)
                    (try clear BK165)
                    (try clear HB)
                    generalize ((w26.setCell ⟨gb162, 0, none⟩ (.int .i64 t166)).setCell ⟨gb162, 1, none⟩ (.int .i64 t167)) = w41 at n0_ n1_ n2_ n3_ ⊢
                    have BK162 := n0_
                    have BK164 := n1_
                    have BK165 := n2_
                    have HB := n3_
                    clear n0_ n1_ n2_ n3_
                    have n0_ := Aside0.mk (blk_drew BK162.out)
                    have n1_ := Aside0.mk (blk_drew BK164.out)
                    have n2_ := Aside0.mk (blk_drew BK165.out)
                    have n3_ := Aside0.mk (below_drew1 HB.out)
                    clear BK162
                    clear BK164
                    clear BK165
                    clear HB
                    have BK162 := n0_
                    have BK164 := n1_
                    have BK165 := n2_
                    have HB := n3_
                    clear n0_ n1_ n2_ n3_
                    refine start_ (n := 27) (S := fun w' => w'.cell? ⟨gb164, 0, none⟩ = some (.int .u64 ((rd_T26 l0 x8_1).f0)) ∧ w'.cell? ⟨gb164, 1, none⟩ = some (.bool ((rd_T26 l0 x8_1).f1)) ∧ w'.cell? ⟨gb164, 2, none⟩ = some (.bool ((rd_T26 l0 x8_1).f2)) ∧ w'.cell? ⟨gb164, 3, none⟩ = some (.int .i64 ((rd_T26 l0 x8_1).f3)) ∧ w'.cell? ⟨gb162, 0, none⟩ = some (.int .i64 t166) ∧ w'.cell? ⟨gb162, 1, none⟩ = some (.int .i64 t167)) (ds := []) #[false, false, false, false, false, false, false, false, false, false, false, false, false, false, false, false, false, false, false, false, false, false, false, false, false, false, false] (by kernel_rfl) rfl rfl ⟨(blk_cell BK164.out 0).trans rfl, (blk_cell BK164.out 1).trans rfl, (blk_cell BK164.out 2).trans rfl, (blk_cell BK164.out 3).trans rfl, (blk_cell BK162.out 0).trans rfl, (blk_cell BK162.out 1).trans rfl⟩ (fun hHeld => ?_); refine with_tabW paternosterlaw20_TurnReady.tab14 paternosterlaw20_TurnReady.bits14 (fun HT_ HW_ => ?_)
                    generalize w41.drew = w42 at BK162 BK164 BK165 HB hHeld ⊢
                    refine pure_ (i := 0) (N := some 42) (v := ?_) (a' := ?_) #[true, false, false, false, false, false, false, false, false, false, false, false, false, false, false, false, false, false, false, false, false, false, false, false, false, false, false] rfl rfl (any_of HT_.out (by kernel_rfl)) (fun _ _ _ h => h) (Or.inl ⟨by rfl, ?_⟩) ?_ ?_
                    rotate_left
                    · intro w'
                      go_simp
                      with_reducible rfl
                    rotate_left
                    · simp only [Act.put, List.setIfInBounds_toArray, List.set_cons_zero, List.set_cons_succ, i64_w, i32_w]
                      rfl
                    refine take_ (i := 1) (N := some 43) (v := ?_) (a' := ?_) #[true, true, false, false, false, false, false, false, false, false, false, false, false, false, false, false, false, false, false, false, false, false, false, false, false, false, false] rfl rfl (take_ofW HT_.out HW_.out (by kernel_rfl)) (fun _ _ _ h => h) (Or.inl ⟨by rfl, ?_⟩) hHeld ?_ ?_
                    rotate_left
                    · rintro w' ⟨s0, s1, s2, s3, s4, s5⟩
                      go_simp
                      with_reducible rfl
                    rotate_left
                    · simp only [Act.put, List.setIfInBounds_toArray, List.set_cons_zero, List.set_cons_succ, i64_w, i32_w]
                      rfl
                    refine pure_ (i := 2) (N := some 44) (v := ?_) (a' := ?_) #[true, true, true, false, false, false, false, false, false, false, false, false, false, false, false, false, false, false, false, false, false, false, false, false, false, false, false] rfl rfl (any_of HT_.out (by kernel_rfl)) (fun _ _ _ h => h) (Or.inl ⟨by rfl, ?_⟩) ?_ ?_
                    rotate_left
                    · intro w'
                      go_simp
                      with_reducible rfl
                    rotate_left
                    · simp only [Act.put, List.setIfInBounds_toArray, List.set_cons_zero, List.set_cons_succ, i64_w, i32_w]
                      rfl
                    refine pure_ (i := 3) (N := some 45) (v := ?_) (a' := ?_) #[true, true, true, true, false, false, false, false, false, false, false, false, false, false, false, false, false, false, false, false, false, false, false, false, false, false, false] rfl rfl (any_of HT_.out (by kernel_rfl)) (fun _ _ _ h => h) (Or.inl ⟨by rfl, ?_⟩) ?_ ?_
                    rotate_left
                    · intro w'
                      go_simp
                      with_reducible rfl
                    rotate_left
                    · simp only [Act.put, List.setIfInBounds_toArray, List.set_cons_zero, List.set_cons_succ, i64_w, i32_w]
                      rfl
                    refine pure_ (i := 4) (N := some 46) (v := undef) (a' := ?_) #[true, true, true, true, true, false, false, false, false, false, false, false, false, false, false, false, false, false, false, false, false, false, false, false, false, false, false] rfl rfl (any_of HT_.out (by kernel_rfl)) (fun _ _ _ h => h) (Or.inr ⟨by rfl, rfl⟩) ?_ ?_
                    rotate_left
                    · simp only [Act.put, List.setIfInBounds_toArray, List.set_cons_zero, List.set_cons_succ, i64_w, i32_w]
                      rfl
                    refine pure_ (i := 5) (N := some 47) (v := undef) (a' := ?_) #[true, true, true, true, true, true, false, false, false, false, false, false, false, false, false, false, false, false, false, false, false, false, false, false, false, false, false] rfl rfl (any_of HT_.out (by kernel_rfl)) (fun _ _ _ h => h) (Or.inr ⟨by rfl, rfl⟩) ?_ ?_
                    rotate_left
                    · simp only [Act.put, List.setIfInBounds_toArray, List.set_cons_zero, List.set_cons_succ, i64_w, i32_w]
                      rfl
                    refine pure_ (i := 6) (N := some 48) (v := undef) (a' := ?_) #[true, true, true, true, true, true, true, false, false, false, false, false, false, false, false, false, false, false, false, false, false, false, false, false, false, false, false] rfl rfl (any_of HT_.out (by kernel_rfl)) (fun _ _ _ h => h) (Or.inr ⟨by rfl, rfl⟩) ?_ ?_
                    rotate_left
                    · simp only [Act.put, List.setIfInBounds_toArray, List.set_cons_zero, List.set_cons_succ, i64_w, i32_w]
                      rfl
                    refine pure_ (i := 7) (N := some 49) (v := ?_) (a' := ?_) #[true, true, true, true, true, true, true, true, false, false, false, false, false, false, false, false, false, false, false, false, false, false, false, false, false, false, false] rfl rfl (any_of HT_.out (by kernel_rfl)) (fun _ _ _ h => h) (Or.inl ⟨by rfl, ?_⟩) ?_ ?_
                    rotate_left
                    · intro w'
                      go_simp
                      with_reducible rfl
                    rotate_left
                    · simp only [Act.put, List.setIfInBounds_toArray, List.set_cons_zero, List.set_cons_succ, i64_w, i32_w]
                      rfl
                    refine pure_ (i := 8) (N := some 50) (v := ?_) (a' := ?_) #[true, true, true, true, true, true, true, true, true, false, false, false, false, false, false, false, false, false, false, false, false, false, false, false, false, false, false] rfl rfl (any_of HT_.out (by kernel_rfl)) (fun _ _ _ h => h) (Or.inl ⟨by rfl, ?_⟩) ?_ ?_
                    rotate_left
                    · intro w'
                      go_simp
                      with_reducible rfl
                    rotate_left
                    · simp only [Act.put, List.setIfInBounds_toArray, List.set_cons_zero, List.set_cons_succ, i64_w, i32_w]
                      rfl
                    refine pure_ (i := 9) (N := some 51) (v := ?_) (a' := ?_) #[true, true, true, true, true, true, true, true, true, true, false, false, false, false, false, false, false, false, false, false, false, false, false, false, false, false, false] rfl rfl (any_of HT_.out (by kernel_rfl)) (fun _ _ _ h => h) (Or.inl ⟨by rfl, ?_⟩) ?_ ?_
                    rotate_left
                    · intro w'
                      go_simp
                      with_reducible rfl
                    rotate_left
                    · simp only [Act.put, List.setIfInBounds_toArray, List.set_cons_zero, List.set_cons_succ, i64_w, i32_w]
                      rfl
                    refine take_ (i := 10) (N := some 52) (v := ?_) (a' := ?_) #[true, true, true, true, true, true, true, true, true, true, true, false, false, false, false, false, false, false, false, false, false, false, false, false, false, false, false] rfl rfl (take_ofW HT_.out HW_.out (by kernel_rfl)) (fun _ _ _ h => h) (Or.inl ⟨by rfl, ?_⟩) hHeld ?_ ?_
                    rotate_left
                    · rintro w' ⟨s0, s1, s2, s3, s4, s5⟩
                      go_simp
                      with_reducible rfl
                    rotate_left
                    · simp only [Act.put, List.setIfInBounds_toArray, List.set_cons_zero, List.set_cons_succ, i64_w, i32_w]
                      rfl
                    refine pure_ (i := 11) (N := some 53) (v := ?_) (a' := ?_) #[true, true, true, true, true, true, true, true, true, true, true, true, false, false, false, false, false, false, false, false, false, false, false, false, false, false, false] rfl rfl (any_of HT_.out (by kernel_rfl)) (fun _ _ _ h => h) (Or.inl ⟨by rfl, ?_⟩) ?_ ?_
                    rotate_left
                    · intro w'
                      go_simp
                      with_reducible rfl
                    rotate_left
                    · simp only [Act.put, List.setIfInBounds_toArray, List.set_cons_zero, List.set_cons_succ, i64_w, i32_w]
                      rfl
                    refine pure_ (i := 12) (N := some 54) (v := ?_) (a' := ?_) #[true, true, true, true, true, true, true, true, true, true, true, true, true, false, false, false, false, false, false, false, false, false, false, false, false, false, false] rfl rfl (any_of HT_.out (by kernel_rfl)) (fun _ _ _ h => h) (Or.inl ⟨by rfl, ?_⟩) ?_ ?_
                    rotate_left
                    · intro w'
                      go_simp
                      with_reducible rfl
                    rotate_left
                    · simp only [Act.put, List.setIfInBounds_toArray, List.set_cons_zero, List.set_cons_succ, i64_w, i32_w]
                      rfl
                    refine pure_ (i := 13) (N := some 55) (v := ?_) (a' := ?_) #[true, true, true, true, true, true, true, true, true, true, true, true, true, true, false, false, false, false, false, false, false, false, false, false, false, false, false] rfl rfl (any_of HT_.out (by kernel_rfl)) (fun _ _ _ h => h) (Or.inl ⟨by rfl, ?_⟩) ?_ ?_
                    rotate_left
                    · intro w'
                      go_simp
                      with_reducible rfl
                    rotate_left
                    · simp only [Act.put, List.setIfInBounds_toArray, List.set_cons_zero, List.set_cons_succ, i64_w, i32_w]
                      rfl
                    refine pure_ (i := 15) (N := some 57) (v := ?_) (a' := ?_) #[true, true, true, true, true, true, true, true, true, true, true, true, true, true, false, true, false, false, false, false, false, false, false, false, false, false, false] rfl rfl (any_of HT_.out (by kernel_rfl)) (fun _ _ _ h => h) (Or.inl ⟨by rfl, ?_⟩) ?_ ?_
                    rotate_left
                    · intro w'
                      go_simp
                      with_reducible rfl
                    rotate_left
                    · simp only [Act.put, List.setIfInBounds_toArray, List.set_cons_zero, List.set_cons_succ, i64_w, i32_w]
                      rfl
                    refine take_ (i := 14) (N := some 56) (v := ?_) (a' := ?_) #[true, true, true, true, true, true, true, true, true, true, true, true, true, true, true, true, false, false, false, false, false, false, false, false, false, false, false] rfl rfl (take_ofW HT_.out HW_.out (by kernel_rfl)) (fun _ _ _ h => h) (Or.inl ⟨by rfl, ?_⟩) hHeld ?_ ?_
                    rotate_left
                    · rintro w' ⟨s0, s1, s2, s3, s4, s5⟩
                      go_simp
                      with_reducible rfl
                    rotate_left
                    · simp only [Act.put, List.setIfInBounds_toArray, List.set_cons_zero, List.set_cons_succ, i64_w, i32_w]
                      rfl
                    refine take_ (i := 16) (N := some 58) (v := ?_) (a' := ?_) #[true, true, true, true, true, true, true, true, true, true, true, true, true, true, true, true, true, false, false, false, false, false, false, false, false, false, false] rfl rfl (take_ofW HT_.out HW_.out (by kernel_rfl)) (fun _ _ _ h => h) (Or.inl ⟨by rfl, ?_⟩) hHeld ?_ ?_
                    rotate_left
                    · rintro w' ⟨s0, s1, s2, s3, s4, s5⟩
                      go_simp
                      with_reducible rfl
                    rotate_left
                    · simp only [Act.put, List.setIfInBounds_toArray, List.set_cons_zero, List.set_cons_succ, i64_w, i32_w]
                      rfl
                    refine one_ (i := 17) (N := some 59) #[true, true, true, true, true, true, true, true, true, true, true, true, true, true, true, true, true, true, false, false, false, false, false, false, false, false, false] rfl rfl (one_of HT_.out (by kernel_rfl)) (by decide) (fun K hK => ?_)
                    refine goes_ Tryd.func13 (by kernel_rfl) rfl #[.int .u64 ((rd_T26 l0 x8_1).f0), .int .i64 t166] (by rfl) rfl rfl (by (try simp only [List.map_toArray, List.map_cons, List.map_nil]); first | done | rfl | (simp only [List.length_drop, List.length_take]; rfl)) ?_
                    with_reducible refine (order_Has.calls ((rd_T26 l0 x8_1).f0) t166 false _ A37.out).mono ?_
                    rintro e w' ⟨rfl, ⟨nd, rfl⟩⟩
                    refine ⟨_, rfl, ?_⟩
                    refine hK.out _ _ ⟨(blk_cell BK164.out 0).trans rfl, (blk_cell BK164.out 1).trans rfl, (blk_cell BK164.out 2).trans rfl, (blk_cell BK164.out 3).trans rfl, (blk_cell BK162.out 0).trans rfl, (blk_cell BK162.out 1).trans rfl⟩ (fun hHeld => ?_)
                    clear hK K
                    refine norm_ (a' := ?_) ?_ ?_
                    rotate_left
                    · show Act.put _ (some 59) _ = _
                      simp only [Act.put, List.setIfInBounds_toArray, List.set_cons_zero, List.set_cons_succ, i64_w, i32_w]
                      rfl
                    refine pure_ (i := 18) (N := some 60) (v := ?_) (a' := ?_) #[true, true, true, true, true, true, true, true, true, true, true, true, true, true, true, true, true, true, true, false, false, false, false, false, false, false, false] rfl rfl (any_of HT_.out (by kernel_rfl)) (fun _ _ _ h => h) (Or.inl ⟨by rfl, ?_⟩) ?_ ?_
                    rotate_left
                    · intro w'
                      go_simp
                      with_reducible rfl
                    rotate_left
                    · simp only [Act.put, List.setIfInBounds_toArray, List.set_cons_zero, List.set_cons_succ, i64_w, i32_w]
                      rfl
                    refine pure_ (i := 19) (N := some 61) (v := ?_) (a' := ?_) #[true, true, true, true, true, true, true, true, true, true, true, true, true, true, true, true, true, true, true, true, false, false, false, false, false, false, false] rfl rfl (any_of HT_.out (by kernel_rfl)) (fun _ _ _ h => h) (Or.inl ⟨by rfl, ?_⟩) ?_ ?_
                    rotate_left
                    · intro w'
                      go_simp
                      with_reducible rfl
                    rotate_left
                    · simp only [Act.put, List.setIfInBounds_toArray, List.set_cons_zero, List.set_cons_succ, i64_w, i32_w]
                      rfl
                    refine pure_ (i := 20) (N := some 62) (v := ?_) (a' := ?_) #[true, true, true, true, true, true, true, true, true, true, true, true, true, true, true, true, true, true, true, true, true, false, false, false, false, false, false] rfl rfl (any_of HT_.out (by kernel_rfl)) (fun _ _ _ h => h) (Or.inl ⟨by rfl, ?_⟩) ?_ ?_
                    rotate_left
                    · intro w'
                      go_simp
                      with_reducible rfl
                    rotate_left
                    · simp only [Act.put, List.setIfInBounds_toArray, List.set_cons_zero, List.set_cons_succ, i64_w, i32_w]
                      rfl
                    refine pure_ (i := 21) (N := some 63) (v := ?_) (a' := ?_) #[true, true, true, true, true, true, true, true, true, true, true, true, true, true, true, true, true, true, true, true, true, true, false, false, false, false, false] rfl rfl (any_of HT_.out (by kernel_rfl)) (fun _ _ _ h => h) (Or.inl ⟨by rfl, ?_⟩) ?_ ?_
                    rotate_left
                    · intro w'
                      go_simp
                      with_reducible rfl
                    rotate_left
                    · simp only [Act.put, List.setIfInBounds_toArray, List.set_cons_zero, List.set_cons_succ, i64_w, i32_w]
                      rfl
                    refine pure_ (i := 22) (N := some 64) (v := undef) (a' := ?_) #[true, true, true, true, true, true, true, true, true, true, true, true, true, true, true, true, true, true, true, true, true, true, true, false, false, false, false] rfl rfl (any_of HT_.out (by kernel_rfl)) (fun _ _ _ h => h) (Or.inr ⟨by rfl, rfl⟩) ?_ ?_
                    rotate_left
                    · simp only [Act.put, List.setIfInBounds_toArray, List.set_cons_zero, List.set_cons_succ, i64_w, i32_w]
                      rfl
                    refine pure_ (i := 23) (N := some 65) (v := undef) (a' := ?_) #[true, true, true, true, true, true, true, true, true, true, true, true, true, true, true, true, true, true, true, true, true, true, true, true, false, false, false] rfl rfl (any_of HT_.out (by kernel_rfl)) (fun _ _ _ h => h) (Or.inr ⟨by rfl, rfl⟩) ?_ ?_
                    rotate_left
                    · simp only [Act.put, List.setIfInBounds_toArray, List.set_cons_zero, List.set_cons_succ, i64_w, i32_w]
                      rfl
                    refine pure_ (i := 24) (N := some 66) (v := undef) (a' := ?_) #[true, true, true, true, true, true, true, true, true, true, true, true, true, true, true, true, true, true, true, true, true, true, true, true, true, false, false] rfl rfl (any_of HT_.out (by kernel_rfl)) (fun _ _ _ h => h) (Or.inr ⟨by rfl, rfl⟩) ?_ ?_
                    rotate_left
                    · simp only [Act.put, List.setIfInBounds_toArray, List.set_cons_zero, List.set_cons_succ, i64_w, i32_w]
                      rfl
                    refine pure_ (i := 25) (N := some 67) (v := undef) (a' := ?_) #[true, true, true, true, true, true, true, true, true, true, true, true, true, true, true, true, true, true, true, true, true, true, true, true, true, true, false] rfl rfl (any_of HT_.out (by kernel_rfl)) (fun _ _ _ h => h) (Or.inr ⟨by rfl, rfl⟩) ?_ ?_
                    rotate_left
                    · simp only [Act.put, List.setIfInBounds_toArray, List.set_cons_zero, List.set_cons_succ, i64_w, i32_w]
                      rfl
                    refine pure_ (i := 26) (N := some 68) (v := ?_) (a' := ?_) #[true, true, true, true, true, true, true, true, true, true, true, true, true, true, true, true, true, true, true, true, true, true, true, true, true, true, true] rfl rfl (any_of HT_.out (by kernel_rfl)) (fun _ _ _ h => h) (Or.inl ⟨by rfl, ?_⟩) ?_ ?_
                    rotate_left
                    · intro w'
                      go_simp
                      with_reducible rfl
                    rotate_left
                    · simp only [Act.put, List.setIfInBounds_toArray, List.set_cons_zero, List.set_cons_succ, i64_w, i32_w]
                      rfl
                    refine done_ (done_of HT_.out (by kernel_rfl)) ?_
                    try go_wp2
                    go_meet
                    case rel => exact ⟨_, (true), (by first | rfl | (simp; done) | (simp [*]; done)), H', ⟨by have := HK1.out; first | omega | exact Nat.le_refl _⟩, ⟨by (with_reducible repeat (first | refine blk_drewN ?_ _ | refine blk_drew ?_ | refine blk_alloc ?_ _)); exact BK162.out⟩, ⟨by (with_reducible repeat (first | refine blk_drewN ?_ _ | refine blk_drew ?_ | refine blk_alloc ?_ _)); exact BK164.out⟩, ⟨by (with_reducible repeat (first | refine blk_drewN ?_ _ | refine blk_drew ?_ | refine blk_alloc ?_ _)); exact BK165.out⟩, ⟨by repeat (first | (with_reducible first | exact HB.out | apply below_alloc | apply pw_below_drewN | apply below_drew1 | refine below_set ?_ GE162.out | refine below_set ?_ GE164.out | refine below_set ?_ GE165.out) | exact HB.out)⟩⟩
              case rest =>
                clear HC15
                try clear c1
                try clear c2
                try clear p2
                try clear c3
                try clear p6
                try clear c13
                try clear c28
                try clear c28b0
                try clear c28b1
                try clear c38
                obtain ⟨kq, x68_14, rfl, HA, HJ14, BK162, BK164, BK165, HB⟩ := hcut
                cases kq with
                | zero => exact absurd HA.out (by simp [paternosterlaw20_TurnReady.j1])
                | succ kj14 =>
                  have H := HA.out
                  clear HA
                  simp only [paternosterlaw20_TurnReady.j1] at H
                  by_cases c43 : x68_14 = true
                  · subst c43
                    have H1 : (some false) = some r := by rw [if_pos rfl] at H; exact H
                    clear H
                    have H := H1
                    clear H1
                    obtain rfl := Option.some.inj H
                    go_wp2
                    go_ret
                    exact ⟨by first | rfl | (simp [errW_none, errW_some] <;> rfl) | (simp [*, errW_none, errW_some] <;> rfl), by repeat (first | (with_reducible first | exact HB.out | apply below_alloc | apply pw_below_drewN | apply below_drew1 | refine below_set ?_ GE162.out | refine below_set ?_ GE164.out | refine below_set ?_ GE165.out) | exact HB.out)⟩
                  · replace c43 := Bool.eq_false_iff.mpr c43
                    subst c43
                    have H1 : (if ((rd_T26 l0 x8_1).f1) = true then ((order_Has.f ((rd_T26 l0 x8_1).f0) x163000_1).bind fun t171 => (if t171 = true then (paternosterlaw20_TurnReady.j2 kj14 l0 (wrap64 ((wrap64 (Int.tmod a1 20)) + 1)) x8_1 (!(t166 == x163000_1) || (!(t167 == x163001_1))) t166 t167 ((rd_T26 l0 x8_1).f0) ((rd_T26 l0 x8_1).f1) ((rd_T26 l0 x8_1).f2) ((rd_T26 l0 x8_1).f3)) else (paternosterlaw20_TurnReady.j2 kj14 l0 (wrap64 ((wrap64 (Int.tmod a1 20)) + 1)) x8_1 false t166 t167 ((rd_T26 l0 x8_1).f0) ((rd_T26 l0 x8_1).f1) ((rd_T26 l0 x8_1).f2) ((rd_T26 l0 x8_1).f3)))) else (paternosterlaw20_TurnReady.j2 kj14 l0 (wrap64 ((wrap64 (Int.tmod a1 20)) + 1)) x8_1 false t166 t167 ((rd_T26 l0 x8_1).f0) ((rd_T26 l0 x8_1).f1) ((rd_T26 l0 x8_1).f2) ((rd_T26 l0 x8_1).f3))) = some r := by rw [if_neg (show ¬ (false = true) by decide)] at H; exact H
                    clear H
                    have H := H1
                    clear H1
                    have HC44 := Aside0.mk H
                    clear H
                    go_upto_region 16 with (fail)
                    go_cut [82] (fun v82 wc => ∃ (kq : Nat) (x82_43 : Bool), v82 = .bool x82_43 ∧ Aside0 (paternosterlaw20_TurnReady.j2 kq l0 (wrap64 ((wrap64 (Int.tmod a1 20)) + 1)) x8_1 x82_43 t166 t167 ((rd_T26 l0 x8_1).f0) ((rd_T26 l0 x8_1).f1) ((rd_T26 l0 x8_1).f2) ((rd_T26 l0 x8_1).f3) = some r) ∧ Aside0 (kq ≤ kj14) ∧ Aside0 (wc.heap[gb162]? = some (.cells #[.int .i64 t166, .int .i64 t167] 23 (0, 0))) ∧ Aside0 (wc.heap[gb164]? = some (.cells #[.int .u64 ((rd_T26 l0 x8_1).f0), .bool ((rd_T26 l0 x8_1).f1), .bool ((rd_T26 l0 x8_1).f2), .int .i64 ((rd_T26 l0 x8_1).f3)] 26 (0, 0))) ∧ Aside0 (wc.heap[gb165]? = some (.cells #[.int .i64 x163000_1, .int .i64 x163001_1] 23 (0, 0))) ∧ Aside0 (Below w.heap.size w wc))
                    case first =>
                      have H := HC44.out
                      clear HC44
                      by_cases c45 : ((rd_T26 l0 x8_1).f1) = true
                      · rw [if_pos c45] at H
                        have c45b0 : ((rd_T26 l0 x8_1).f1) = true := c45
                        clear c45
                        (first | rw [c45b0] | (simp only [i64_w, i32_w]; rw [c45b0]) | skip)
                        replace H := Option.bind_eq_some_iff.mp H
                        obtain ⟨t171, A460, H⟩ := H
                        replace H : (if t171 = true then (paternosterlaw20_TurnReady.j2 kj14 l0 (wrap64 ((wrap64 (Int.tmod a1 20)) + 1)) x8_1 (!(t166 == x163000_1) || (!(t167 == x163001_1))) t166 t167 ((rd_T26 l0 x8_1).f0) ((rd_T26 l0 x8_1).f1) ((rd_T26 l0 x8_1).f2) ((rd_T26 l0 x8_1).f3)) else (paternosterlaw20_TurnReady.j2 kj14 l0 (wrap64 ((wrap64 (Int.tmod a1 20)) + 1)) x8_1 false t166 t167 ((rd_T26 l0 x8_1).f0) ((rd_T26 l0 x8_1).f1) ((rd_T26 l0 x8_1).f2) ((rd_T26 l0 x8_1).f3))) = some r := H
                        have A46 := Aside0.mk A460
                        clear A460
                        by_cases c47 : t171 = true
                        · subst c47
                          have H1 : (paternosterlaw20_TurnReady.j2 kj14 l0 (wrap64 ((wrap64 (Int.tmod a1 20)) + 1)) x8_1 (!(t166 == x163000_1) || (!(t167 == x163001_1))) t166 t167 ((rd_T26 l0 x8_1).f0) ((rd_T26 l0 x8_1).f1) ((rd_T26 l0 x8_1).f2) ((rd_T26 l0 x8_1).f3)) = some r := by rw [if_pos rfl] at H; exact H
                          clear H
                          have H := H1
                          clear H1
                          have H' := Aside0.mk H
                          clear H
                          have hnb48 := NB164_162.out
                          have hnc48 := NB162_164.out
                          have hnb49 := NB164_165.out
                          have hnc49 := NB165_164.out
                          have hcz50_0 : wc.cell? ⟨gb164, 0, none⟩ = some (.int .u64 ((rd_T26 l0 x8_1).f0)) := (blk_cell BK164.out 0).trans rfl
                          have hcz50_1 : wc.cell? ⟨gb164, 1, none⟩ = some (.bool ((rd_T26 l0 x8_1).f1)) := (blk_cell BK164.out 1).trans rfl
                          have hcz50_2 : wc.cell? ⟨gb164, 2, none⟩ = some (.bool ((rd_T26 l0 x8_1).f2)) := (blk_cell BK164.out 2).trans rfl
                          have hcz50_3 : wc.cell? ⟨gb164, 3, none⟩ = some (.int .i64 ((rd_T26 l0 x8_1).f3)) := (blk_cell BK164.out 3).trans rfl
                          have hfz50_0 := blk_frozen BK164.out 0
                          have hfz50_1 := blk_frozen BK164.out 1
                          have hfz50_2 := blk_frozen BK164.out 2
                          have hfz50_3 := blk_frozen BK164.out 3
                          have hnb51 := NB165_162.out
                          have hnc51 := NB162_165.out
                          have hcz52_0 : wc.cell? ⟨gb165, 0, none⟩ = some (.int .i64 x163000_1) := (blk_cell BK165.out 0).trans rfl
                          have hcz52_1 : wc.cell? ⟨gb165, 1, none⟩ = some (.int .i64 x163001_1) := (blk_cell BK165.out 1).trans rfl
                          have hfz52_0 := blk_frozen BK165.out 0
                          have hfz52_1 := blk_frozen BK165.out 1
                          go_wp2_with (first | (go_at_call 13; (with_reducible refine (order_Has.calls ((rd_T26 l0 x8_1).f0) x163000_1 true _ A46.out).mono ?_); rintro e w' ⟨rfl, ⟨nd, rfl⟩⟩; have hcz53_0 : wc.cell? ⟨gb162, 0, none⟩ = some (.int .i64 t166) := (blk_cell BK162.out 0).trans rfl; have hcz53_1 : wc.cell? ⟨gb162, 1, none⟩ = some (.int .i64 t167) := (blk_cell BK162.out 1).trans rfl; have hfz53_0 := blk_frozen BK162.out 0; have hfz53_1 := blk_frozen BK162.out 1))
                          go_meet
                          case rel => exact ⟨_, ((!(t166 == x163000_1) || (!(t167 == x163001_1)))), (by first | rfl | (simp; done) | (simp [*]; done)), H', ⟨by have := HK1.out; have := HJ14.out; first | omega | exact Nat.le_refl _⟩, ⟨by (with_reducible repeat (first | refine blk_drewN ?_ _ | refine blk_drew ?_ | refine blk_alloc ?_ _)); exact BK162.out⟩, ⟨by (with_reducible repeat (first | refine blk_drewN ?_ _ | refine blk_drew ?_ | refine blk_alloc ?_ _)); exact BK164.out⟩, ⟨by (with_reducible repeat (first | refine blk_drewN ?_ _ | refine blk_drew ?_ | refine blk_alloc ?_ _)); exact BK165.out⟩, ⟨by repeat (first | (with_reducible first | exact HB.out | apply below_alloc | apply pw_below_drewN | apply below_drew1 | refine below_set ?_ GE162.out | refine below_set ?_ GE164.out | refine below_set ?_ GE165.out) | exact HB.out)⟩⟩
                        · replace c47 := Bool.eq_false_iff.mpr c47
                          subst c47
                          have H1 : (paternosterlaw20_TurnReady.j2 kj14 l0 (wrap64 ((wrap64 (Int.tmod a1 20)) + 1)) x8_1 false t166 t167 ((rd_T26 l0 x8_1).f0) ((rd_T26 l0 x8_1).f1) ((rd_T26 l0 x8_1).f2) ((rd_T26 l0 x8_1).f3)) = some r := by rw [if_neg (show ¬ (false = true) by decide)] at H; exact H
                          clear H
                          have H := H1
                          clear H1
                          have H' := Aside0.mk H
                          clear H
                          have hnb54 := NB164_162.out
                          have hnc54 := NB162_164.out
                          have hnb55 := NB164_165.out
                          have hnc55 := NB165_164.out
                          have hcz56_0 : wc.cell? ⟨gb164, 0, none⟩ = some (.int .u64 ((rd_T26 l0 x8_1).f0)) := (blk_cell BK164.out 0).trans rfl
                          have hcz56_1 : wc.cell? ⟨gb164, 1, none⟩ = some (.bool ((rd_T26 l0 x8_1).f1)) := (blk_cell BK164.out 1).trans rfl
                          have hcz56_2 : wc.cell? ⟨gb164, 2, none⟩ = some (.bool ((rd_T26 l0 x8_1).f2)) := (blk_cell BK164.out 2).trans rfl
                          have hcz56_3 : wc.cell? ⟨gb164, 3, none⟩ = some (.int .i64 ((rd_T26 l0 x8_1).f3)) := (blk_cell BK164.out 3).trans rfl
                          have hfz56_0 := blk_frozen BK164.out 0
                          have hfz56_1 := blk_frozen BK164.out 1
                          have hfz56_2 := blk_frozen BK164.out 2
                          have hfz56_3 := blk_frozen BK164.out 3
                          have hnb57 := NB165_162.out
                          have hnc57 := NB162_165.out
                          have hcz58_0 : wc.cell? ⟨gb165, 0, none⟩ = some (.int .i64 x163000_1) := (blk_cell BK165.out 0).trans rfl
                          have hcz58_1 : wc.cell? ⟨gb165, 1, none⟩ = some (.int .i64 x163001_1) := (blk_cell BK165.out 1).trans rfl
                          have hfz58_0 := blk_frozen BK165.out 0
                          have hfz58_1 := blk_frozen BK165.out 1
                          go_wp2_with (first | (go_at_call 13; (with_reducible refine (order_Has.calls ((rd_T26 l0 x8_1).f0) x163000_1 false _ A46.out).mono ?_); rintro e w' ⟨rfl, ⟨nd, rfl⟩⟩))
                          go_meet
                          case rel => exact ⟨_, (false), (by first | rfl | (simp; done) | (simp [*]; done)), H', ⟨by have := HK1.out; have := HJ14.out; first | omega | exact Nat.le_refl _⟩, ⟨by (with_reducible repeat (first | refine blk_drewN ?_ _ | refine blk_drew ?_ | refine blk_alloc ?_ _)); exact BK162.out⟩, ⟨by (with_reducible repeat (first | refine blk_drewN ?_ _ | refine blk_drew ?_ | refine blk_alloc ?_ _)); exact BK164.out⟩, ⟨by (with_reducible repeat (first | refine blk_drewN ?_ _ | refine blk_drew ?_ | refine blk_alloc ?_ _)); exact BK165.out⟩, ⟨by repeat (first | (with_reducible first | exact HB.out | apply below_alloc | apply pw_below_drewN | apply below_drew1 | refine below_set ?_ GE162.out | refine below_set ?_ GE164.out | refine below_set ?_ GE165.out) | exact HB.out)⟩⟩
                      · rw [if_neg c45] at H
                        have c45b0 : ((rd_T26 l0 x8_1).f1) = false := by simpa using c45
                        clear c45
                        (first | rw [c45b0] | (simp only [i64_w, i32_w]; rw [c45b0]) | skip)
                        have H' := Aside0.mk H
                        clear H
                        have hnb59 := NB164_162.out
                        have hnc59 := NB162_164.out
                        have hnb60 := NB164_165.out
                        have hnc60 := NB165_164.out
                        have hcz61_0 : wc.cell? ⟨gb164, 0, none⟩ = some (.int .u64 ((rd_T26 l0 x8_1).f0)) := (blk_cell BK164.out 0).trans rfl
                        have hcz61_1 : wc.cell? ⟨gb164, 1, none⟩ = some (.bool ((rd_T26 l0 x8_1).f1)) := (blk_cell BK164.out 1).trans rfl
                        have hcz61_2 : wc.cell? ⟨gb164, 2, none⟩ = some (.bool ((rd_T26 l0 x8_1).f2)) := (blk_cell BK164.out 2).trans rfl
                        have hcz61_3 : wc.cell? ⟨gb164, 3, none⟩ = some (.int .i64 ((rd_T26 l0 x8_1).f3)) := (blk_cell BK164.out 3).trans rfl
                        have hfz61_0 := blk_frozen BK164.out 0
                        have hfz61_1 := blk_frozen BK164.out 1
                        have hfz61_2 := blk_frozen BK164.out 2
                        have hfz61_3 := blk_frozen BK164.out 3
                        go_wp2
                        go_meet
                        case rel => exact ⟨_, (false), (by first | rfl | (simp; done) | (simp [*]; done)), H', ⟨by have := HK1.out; have := HJ14.out; first | omega | exact Nat.le_refl _⟩, ⟨by (with_reducible repeat (first | refine blk_drewN ?_ _ | refine blk_drew ?_ | refine blk_alloc ?_ _)); exact BK162.out⟩, ⟨by (with_reducible repeat (first | refine blk_drewN ?_ _ | refine blk_drew ?_ | refine blk_alloc ?_ _)); exact BK164.out⟩, ⟨by (with_reducible repeat (first | refine blk_drewN ?_ _ | refine blk_drew ?_ | refine blk_alloc ?_ _)); exact BK165.out⟩, ⟨by repeat (first | (with_reducible first | exact HB.out | apply below_alloc | apply pw_below_drewN | apply below_drew1 | refine below_set ?_ GE162.out | refine below_set ?_ GE164.out | refine below_set ?_ GE165.out) | exact HB.out)⟩⟩
                    case rest =>
                      clear HC44
                      try clear c1
                      try clear c2
                      try clear p2
                      try clear c3
                      try clear c4
                      try clear c5
                      try clear c6
                      try clear p6
                      try clear c13
                      try clear c28
                      try clear c28b0
                      try clear c28b1
                      try clear c38
                      try clear c43
                      try clear c45
                      try clear c45b0
                      try clear c47
                      try clear c48
                      try clear c49
                      try clear c51
                      try clear c54
                      try clear c55
                      try clear c57
                      try clear c59
                      try clear c60
                      try clear hcz50_0
                      try clear hcz50_1
                      try clear hcz50_2
                      try clear hcz50_3
                      try clear hcz52_0
                      try clear hcz52_1
                      try clear hcz53_0
                      try clear hcz53_1
                      try clear hcz56_0
                      try clear hcz56_1
                      try clear hcz56_2
                      try clear hcz56_3
                      try clear hcz58_0
                      try clear hcz58_1
                      try clear hcz61_0
                      try clear hcz61_1
                      try clear hcz61_2
                      try clear hcz61_3
                      try clear hfz50_0
                      try clear hfz50_1
                      try clear hfz50_2
                      try clear hfz50_3
                      try clear hfz52_0
                      try clear hfz52_1
                      try clear hfz53_0
                      try clear hfz53_1
                      try clear hfz56_0
                      try clear hfz56_1
                      try clear hfz56_2
                      try clear hfz56_3
                      try clear hfz58_0
                      try clear hfz58_1
                      try clear hfz61_0
                      try clear hfz61_1
                      try clear hfz61_2
                      try clear hfz61_3
                      try clear p2
                      try clear p6
                      obtain ⟨kq, x82_43, rfl, HA, HJ43, BK162, BK164, BK165, HB⟩ := hcut
                      cases kq with
                      | zero => exact absurd HA.out (by simp [paternosterlaw20_TurnReady.j2])
                      | succ kj43 =>
                        have H := HA.out
                        clear HA
                        simp only [paternosterlaw20_TurnReady.j2] at H
                        by_cases c62 : x82_43 = true
                        · subst c62
                          have H1 : (some false) = some r := by rw [if_pos rfl] at H; exact H
                          clear H
                          have H := H1
                          clear H1
                          obtain rfl := Option.some.inj H
                          go_wp2
                          go_ret
                          exact ⟨by first | rfl | (simp [errW_none, errW_some] <;> rfl) | (simp [*, errW_none, errW_some] <;> rfl), by repeat (first | (with_reducible first | exact HB.out | apply below_alloc | apply pw_below_drewN | apply below_drew1 | refine below_set ?_ GE162.out | refine below_set ?_ GE164.out | refine below_set ?_ GE165.out) | exact HB.out)⟩
                        · replace c62 := Bool.eq_false_iff.mpr c62
                          subst c62
                          have H1 : (if ((rd_T26 l0 x8_1).f2) = true then ((turn_Turn_Pick.f t166 t167 ((rd_T26 l0 x8_1).f3) ((rd_T26 l0 x8_1).f0) ((rd_T26 l0 x8_1).f1) (wrap64 ((wrap64 (Int.tmod a1 20)) + 1))).bind fun bt172 => (if ((rd_T26 l0 x8_1).f1) = true then (if (bt172.2.2 != false) = true then (some false) else (if bt172.2.2 = true then (if bt172.1 = ((rd_T26 l0 x8_1).f3) then (if bt172.2.1 = (wrap64 ((wrap64 (Int.tmod a1 20)) + 1)) then (paternosterlaw20_TurnReady.l0 kj43 l0 (wrap64 ((wrap64 (Int.tmod a1 20)) + 1)) (wrap64 (x8_1 + 1)) bt172.1 bt172.2.1) else (some false)) else (some false)) else (if (!(bt172.1 == t166) || (!(bt172.2.1 == t167))) = true then (some false) else (paternosterlaw20_TurnReady.l0 kj43 l0 (wrap64 ((wrap64 (Int.tmod a1 20)) + 1)) (wrap64 (x8_1 + 1)) bt172.1 bt172.2.1)))) else ((order_Has.f ((rd_T26 l0 x8_1).f0) ((rd_T26 l0 x8_1).f3)).bind fun t176 => (if (bt172.2.2 != t176) = true then (some false) else (if bt172.2.2 = true then (if bt172.1 = ((rd_T26 l0 x8_1).f3) then (if bt172.2.1 = (wrap64 ((wrap64 (Int.tmod a1 20)) + 1)) then (paternosterlaw20_TurnReady.l0 kj43 l0 (wrap64 ((wrap64 (Int.tmod a1 20)) + 1)) (wrap64 (x8_1 + 1)) bt172.1 bt172.2.1) else (some false)) else (some false)) else (if (!(bt172.1 == t166) || (!(bt172.2.1 == t167))) = true then (some false) else (paternosterlaw20_TurnReady.l0 kj43 l0 (wrap64 ((wrap64 (Int.tmod a1 20)) + 1)) (wrap64 (x8_1 + 1)) bt172.1 bt172.2.1))))))) else (paternosterlaw20_TurnReady.l0 kj43 l0 (wrap64 ((wrap64 (Int.tmod a1 20)) + 1)) (wrap64 (x8_1 + 1)) t166 t167)) = some r := by rw [if_neg (show ¬ (false = true) by decide)] at H; exact H
                          clear H
                          have H := H1
                          clear H1
                          by_cases c63 : ((rd_T26 l0 x8_1).f2) = true
                          · rw [if_pos c63] at H
                            have c63b0 : ((rd_T26 l0 x8_1).f2) = true := c63
                            clear c63
                            replace H := Option.bind_eq_some_iff.mp H
                            obtain ⟨⟨t172, t173, t174⟩, A640, H⟩ := H
                            replace H : (if ((rd_T26 l0 x8_1).f1) = true then (if (t174 != false) = true then (some false) else (if t174 = true then (if t172 = ((rd_T26 l0 x8_1).f3) then (if t173 = (wrap64 ((wrap64 (Int.tmod a1 20)) + 1)) then (paternosterlaw20_TurnReady.l0 kj43 l0 (wrap64 ((wrap64 (Int.tmod a1 20)) + 1)) (wrap64 (x8_1 + 1)) t172 t173) else (some false)) else (some false)) else (if (!(t172 == t166) || (!(t173 == t167))) = true then (some false) else (paternosterlaw20_TurnReady.l0 kj43 l0 (wrap64 ((wrap64 (Int.tmod a1 20)) + 1)) (wrap64 (x8_1 + 1)) t172 t173)))) else ((order_Has.f ((rd_T26 l0 x8_1).f0) ((rd_T26 l0 x8_1).f3)).bind fun t176 => (if (t174 != t176) = true then (some false) else (if t174 = true then (if t172 = ((rd_T26 l0 x8_1).f3) then (if t173 = (wrap64 ((wrap64 (Int.tmod a1 20)) + 1)) then (paternosterlaw20_TurnReady.l0 kj43 l0 (wrap64 ((wrap64 (Int.tmod a1 20)) + 1)) (wrap64 (x8_1 + 1)) t172 t173) else (some false)) else (some false)) else (if (!(t172 == t166) || (!(t173 == t167))) = true then (some false) else (paternosterlaw20_TurnReady.l0 kj43 l0 (wrap64 ((wrap64 (Int.tmod a1 20)) + 1)) (wrap64 (x8_1 + 1)) t172 t173)))))) = some r := H
                            have A64 := Aside0.mk A640
                            clear A640
                            by_cases c65 : ((rd_T26 l0 x8_1).f1) = true
                            · rw [if_pos c65] at H
                              have c65b0 : ((rd_T26 l0 x8_1).f1) = true := c65
                              have n0_ : Aside0 (turn_Turn_Pick.f t166 t167 ((rd_T26 l0 x8_1).f3) ((rd_T26 l0 x8_1).f0) true (wrap64 ((wrap64 (Int.tmod a1 20)) + 1)) = some (t172, t173, t174)) := Aside0.mk (by rw [← c65b0]; exact A64.out)
                              clear A64
                              have A64 := n0_
                              clear n0_
                              clear c65
                              by_cases c66 : (t174 != false) = true
                              · rw [if_pos c66] at H
                                have c66b0 : (t174 != false) = true := c66
                                (try (have c66b1 : decide (t174 = false) = false := by simpa using c66))
                                (try (have c66b2 : (t174 == false) = false := by simpa using c66))
                                (try (have c66b3 : ¬ (t174 = false) := by simpa using c66))
                                clear c66
                                obtain rfl := Option.some.inj H
                                have hnb67 := NB164_162.out
                                have hnc67 := NB162_164.out
                                have hnb68 := NB164_165.out
                                have hnc68 := NB165_164.out
                                have hcz69_0 : wc.cell? ⟨gb164, 0, none⟩ = some (.int .u64 ((rd_T26 l0 x8_1).f0)) := (blk_cell BK164.out 0).trans rfl
                                have hcz69_1 : wc.cell? ⟨gb164, 1, none⟩ = some (.bool ((rd_T26 l0 x8_1).f1)) := (blk_cell BK164.out 1).trans rfl
                                have hcz69_2 : wc.cell? ⟨gb164, 2, none⟩ = some (.bool ((rd_T26 l0 x8_1).f2)) := (blk_cell BK164.out 2).trans rfl
                                have hcz69_3 : wc.cell? ⟨gb164, 3, none⟩ = some (.int .i64 ((rd_T26 l0 x8_1).f3)) := (blk_cell BK164.out 3).trans rfl
                                have hfz69_0 := blk_frozen BK164.out 0
                                have hfz69_1 := blk_frozen BK164.out 1
                                have hfz69_2 := blk_frozen BK164.out 2
                                have hfz69_3 := blk_frozen BK164.out 3
                                have hnb70 := NB162_165.out
                                have hnc70 := NB165_162.out
                                have hcz71_0 : wc.cell? ⟨gb162, 0, none⟩ = some (.int .i64 t166) := (blk_cell BK162.out 0).trans rfl
                                have hcz71_1 : wc.cell? ⟨gb162, 1, none⟩ = some (.int .i64 t167) := (blk_cell BK162.out 1).trans rfl
                                have hfz71_0 := blk_frozen BK162.out 0
                                have hfz71_1 := blk_frozen BK162.out 1
                                go_wp2_with (first | ((with_reducible refine gate_callee (f := 10) rfl ?_); refine goesL_ (some 94) rfl rfl Tryd.func10 (by kernel_rfl) rfl #[.agg #[.int .i64 t166, .int .i64 t167], .int .i64 ((rd_T26 l0 x8_1).f3), .int .u64 ((rd_T26 l0 x8_1).f0), .bool true, .int .i64 (wrap64 ((wrap64 (Int.tmod a1 20)) + 1))] rfl (by (try simp only [List.map_toArray, List.map_cons, List.map_nil]); first | done | rfl | (simp only [List.length_drop, List.length_take]; rfl)) ?_; (with_reducible refine (turn_Turn_Pick.calls t166 t167 ((rd_T26 l0 x8_1).f3) ((rd_T26 l0 x8_1).f0) true (wrap64 ((wrap64 (Int.tmod a1 20)) + 1)) t172 t173 t174 _ A64.out).mono ?_); rintro e w72 ⟨rfl, hb⟩; refine ⟨_, rfl, ?_⟩; have n0_ := Aside0.mk (blk_below (g := gb162) (o := .cells #[.int .i64 t166, .int .i64 t167] 23 (0, 0)) (by (with_reducible repeat (first | refine blk_drewN ?_ _ | refine blk_drew ?_ | refine blk_alloc ?_ _)); exact BK162.out) hb); have n1_ := Aside0.mk (blk_below (g := gb164) (o := .cells #[.int .u64 ((rd_T26 l0 x8_1).f0), .bool ((rd_T26 l0 x8_1).f1), .bool ((rd_T26 l0 x8_1).f2), .int .i64 ((rd_T26 l0 x8_1).f3)] 26 (0, 0)) (by (with_reducible repeat (first | refine blk_drewN ?_ _ | refine blk_drew ?_ | refine blk_alloc ?_ _)); exact BK164.out) hb); have n2_ := Aside0.mk (blk_below (g := gb165) (o := .cells #[.int .i64 x163000_1, .int .i64 x163001_1] 23 (0, 0)) (by (with_reducible repeat (first | refine blk_drewN ?_ _ | refine blk_drew ?_ | refine blk_alloc ?_ _)); exact BK165.out) hb); have n3_ := Aside0.mk (below_step (by repeat (first | (with_reducible first | exact HB.out | apply below_alloc | apply pw_below_drewN | apply below_drew1 | refine below_set ?_ GE162.out | refine below_set ?_ GE164.out | refine below_set ?_ GE165.out) | exact HB.out)) hb); clear BK162; clear BK164; clear BK165; clear HB; have BK162 := n0_; have BK164 := n1_; have BK165 := n2_; have HB := n3_; clear n0_ n1_ n2_ n3_; (try clear hb); (try clear hb2); (try clear hk); (try clear hi)) | ((with_reducible refine gate_dst (N := 11) rfl ?_); refine box_event ?hg (N := 11) ?hd (cs := #[.int .i64 0, .int .i64 0]) (t := 23) ?hr ?_; (case hd => rfl); (case hg => rfl); (case hr => first | (go_simp; done) | (go_simp; rfl)); intro gb175 hg w73 hbox hb; have n0_ := Aside0.mk (blk_below (g := gb162) (o := .cells #[.int .i64 t166, .int .i64 t167] 23 (0, 0)) (by (with_reducible repeat (first | refine blk_drewN ?_ _ | refine blk_drew ?_ | refine blk_alloc ?_ _)); exact BK162.out) hb); have n1_ := Aside0.mk (blk_below (g := gb164) (o := .cells #[.int .u64 ((rd_T26 l0 x8_1).f0), .bool ((rd_T26 l0 x8_1).f1), .bool ((rd_T26 l0 x8_1).f2), .int .i64 ((rd_T26 l0 x8_1).f3)] 26 (0, 0)) (by (with_reducible repeat (first | refine blk_drewN ?_ _ | refine blk_drew ?_ | refine blk_alloc ?_ _)); exact BK164.out) hb); have n2_ := Aside0.mk (blk_below (g := gb165) (o := .cells #[.int .i64 x163000_1, .int .i64 x163001_1] 23 (0, 0)) (by (with_reducible repeat (first | refine blk_drewN ?_ _ | refine blk_drew ?_ | refine blk_alloc ?_ _)); exact BK165.out) hb); have n3_ := Aside0.mk (below_step (by repeat (first | (with_reducible first | exact HB.out | apply below_alloc | apply pw_below_drewN | apply below_drew1 | refine below_set ?_ GE162.out | refine below_set ?_ GE164.out | refine below_set ?_ GE165.out) | exact HB.out)) hb); have n4_ := Aside0.mk (hbox); have n5_ := Aside0.mk ((by rw [hg]; exact (below_size (by repeat (first | (with_reducible first | exact HB.out | apply below_alloc | apply pw_below_drewN | apply below_drew1 | refine below_set ?_ GE162.out | refine below_set ?_ GE164.out | refine below_set ?_ GE165.out) | exact HB.out))) : w.heap.size ≤ gb175)); have n6_ := Aside0.mk ((by rw [hg]; exact (below_size (by repeat (first | (with_reducible first | exact HB.out | apply below_alloc | apply pw_below_drewN | apply below_drew1 | refine below_set ?_ GE162.out | refine below_set ?_ GE164.out | refine below_set ?_ GE165.out) | exact HB.out))) : w.heap.size ≤ gb175)); have n7_ := Aside0.mk ((by rw [hg]; exact Nat.ne_of_lt (blk_lt (g := gb162) (o := .cells #[.int .i64 t166, .int .i64 t167] 23 (0, 0)) (by (with_reducible repeat (first | refine blk_drewN ?_ _ | refine blk_drew ?_ | refine blk_alloc ?_ _)); exact BK162.out)) : gb162 ≠ gb175)); have n8_ := Aside0.mk ((by rw [hg]; exact Nat.ne_of_gt (blk_lt (g := gb162) (o := .cells #[.int .i64 t166, .int .i64 t167] 23 (0, 0)) (by (with_reducible repeat (first | refine blk_drewN ?_ _ | refine blk_drew ?_ | refine blk_alloc ?_ _)); exact BK162.out)) : gb175 ≠ gb162)); have n9_ := Aside0.mk ((by rw [hg]; exact Nat.ne_of_lt (blk_lt (g := gb164) (o := .cells #[.int .u64 ((rd_T26 l0 x8_1).f0), .bool ((rd_T26 l0 x8_1).f1), .bool ((rd_T26 l0 x8_1).f2), .int .i64 ((rd_T26 l0 x8_1).f3)] 26 (0, 0)) (by (with_reducible repeat (first | refine blk_drewN ?_ _ | refine blk_drew ?_ | refine blk_alloc ?_ _)); exact BK164.out)) : gb164 ≠ gb175)); have n10_ := Aside0.mk ((by rw [hg]; exact Nat.ne_of_gt (blk_lt (g := gb164) (o := .cells #[.int .u64 ((rd_T26 l0 x8_1).f0), .bool ((rd_T26 l0 x8_1).f1), .bool ((rd_T26 l0 x8_1).f2), .int .i64 ((rd_T26 l0 x8_1).f3)] 26 (0, 0)) (by (with_reducible repeat (first | refine blk_drewN ?_ _ | refine blk_drew ?_ | refine blk_alloc ?_ _)); exact BK164.out)) : gb175 ≠ gb164)); have n11_ := Aside0.mk ((by rw [hg]; exact Nat.ne_of_lt (blk_lt (g := gb165) (o := .cells #[.int .i64 x163000_1, .int .i64 x163001_1] 23 (0, 0)) (by (with_reducible repeat (first | refine blk_drewN ?_ _ | refine blk_drew ?_ | refine blk_alloc ?_ _)); exact BK165.out)) : gb165 ≠ gb175)); have n12_ := Aside0.mk ((by rw [hg]; exact Nat.ne_of_gt (blk_lt (g := gb165) (o := .cells #[.int .i64 x163000_1, .int .i64 x163001_1] 23 (0, 0)) (by (with_reducible repeat (first | refine blk_drewN ?_ _ | refine blk_drew ?_ | refine blk_alloc ?_ _)); exact BK165.out)) : gb175 ≠ gb165)); clear BK162; clear BK164; clear BK165; clear HB; have BK162 := n0_; have BK164 := n1_; have BK165 := n2_; have HB := n3_; have BK175 := n4_; have GW175 := n5_; have GE175 := n6_; have NB162_175 := n7_; have NB175_162 := n8_; have NB164_175 := n9_; have NB175_164 := n10_; have NB165_175 := n11_; have NB175_165 := n12_; clear n0_ n1_ n2_ n3_ n4_ n5_ n6_ n7_ n8_ n9_ n10_ n11_ n12_; clear hb hbox hg; have hnb74 := NB175_162.out; have hnc74 := NB162_175.out; have hnb75 := NB175_164.out; have hnc75 := NB164_175.out; have hnb76 := NB175_165.out; have hnc76 := NB165_175.out; have hcz77_0 : w73.cell? ⟨gb175, 0, none⟩ = some (.int .i64 0) := (blk_cell BK175.out 0).trans rfl; have hcz77_1 : w73.cell? ⟨gb175, 1, none⟩ = some (.int .i64 0) := (blk_cell BK175.out 1).trans rfl; have hfz77_0 := blk_frozen BK175.out 0; have hfz77_1 := blk_frozen BK175.out 1; have hcz78_0 : w73.cell? ⟨gb164, 0, none⟩ = some (.int .u64 ((rd_T26 l0 x8_1).f0)) := (blk_cell BK164.out 0).trans rfl; have hcz78_1 : w73.cell? ⟨gb164, 1, none⟩ = some (.bool ((rd_T26 l0 x8_1).f1)) := (blk_cell BK164.out 1).trans rfl; have hcz78_2 : w73.cell? ⟨gb164, 2, none⟩ = some (.bool ((rd_T26 l0 x8_1).f2)) := (blk_cell BK164.out 2).trans rfl; have hcz78_3 : w73.cell? ⟨gb164, 3, none⟩ = some (.int .i64 ((rd_T26 l0 x8_1).f3)) := (blk_cell BK164.out 3).trans rfl; have hfz78_0 := blk_frozen BK164.out 0; have hfz78_1 := blk_frozen BK164.out 1; have hfz78_2 := blk_frozen BK164.out 2; have hfz78_3 := blk_frozen BK164.out 3))
                                go_ret
                                exact ⟨by first | rfl | (simp [errW_none, errW_some] <;> rfl) | (simp [*, errW_none, errW_some] <;> rfl), by repeat (first | (with_reducible first | exact HB.out | apply below_alloc | apply pw_below_drewN | apply below_drew1 | refine below_set ?_ GE162.out | refine below_set ?_ GE164.out | refine below_set ?_ GE165.out | refine below_set ?_ GE175.out) | exact HB.out)⟩
                              · rw [if_neg c66] at H
                                have c66b0 : (t174 != false) = false := by simpa using c66
                                (try (have c66b1 : decide (t174 = false) = true := by simpa using c66))
                                (try (have c66b2 : (t174 == false) = true := by simpa using c66))
                                clear c66
                                by_cases c79 : t174 = true
                                · subst c79
                                  have H1 : (if t172 = ((rd_T26 l0 x8_1).f3) then (if t173 = (wrap64 ((wrap64 (Int.tmod a1 20)) + 1)) then (paternosterlaw20_TurnReady.l0 kj43 l0 (wrap64 ((wrap64 (Int.tmod a1 20)) + 1)) (wrap64 (x8_1 + 1)) t172 t173) else (some false)) else (some false)) = some r := by rw [if_pos rfl] at H; exact H
                                  clear H
                                  have H := H1
                                  clear H1
                                  by_cases c80 : t172 = ((rd_T26 l0 x8_1).f3)
                                  · rw [if_pos c80] at H
                                    have c80b0 : (t172 == ((rd_T26 l0 x8_1).f3)) = true := beq_iff_eq.mpr c80
                                    have c80b1 : (t172 != ((rd_T26 l0 x8_1).f3)) = false := bne_eq_false_iff_eq.mpr c80
                                    clear c80
                                    by_cases c81 : t173 = (wrap64 ((wrap64 (Int.tmod a1 20)) + 1))
                                    · rw [if_pos c81] at H
                                      have c81b0 : (t173 == (wrap64 ((wrap64 (Int.tmod a1 20)) + 1))) = true := beq_iff_eq.mpr c81
                                      have c81b1 : (t173 != (wrap64 ((wrap64 (Int.tmod a1 20)) + 1))) = false := bne_eq_false_iff_eq.mpr c81
                                      clear c81
                                      have H' := Aside0.mk H
                                      clear H
                                      have hnb82 := NB164_162.out
                                      have hnc82 := NB162_164.out
                                      have hnb83 := NB164_165.out
                                      have hnc83 := NB165_164.out
                                      have hcz84_0 : wc.cell? ⟨gb164, 0, none⟩ = some (.int .u64 ((rd_T26 l0 x8_1).f0)) := (blk_cell BK164.out 0).trans rfl
                                      have hcz84_1 : wc.cell? ⟨gb164, 1, none⟩ = some (.bool ((rd_T26 l0 x8_1).f1)) := (blk_cell BK164.out 1).trans rfl
                                      have hcz84_2 : wc.cell? ⟨gb164, 2, none⟩ = some (.bool ((rd_T26 l0 x8_1).f2)) := (blk_cell BK164.out 2).trans rfl
                                      have hcz84_3 : wc.cell? ⟨gb164, 3, none⟩ = some (.int .i64 ((rd_T26 l0 x8_1).f3)) := (blk_cell BK164.out 3).trans rfl
                                      have hfz84_0 := blk_frozen BK164.out 0
                                      have hfz84_1 := blk_frozen BK164.out 1
                                      have hfz84_2 := blk_frozen BK164.out 2
                                      have hfz84_3 := blk_frozen BK164.out 3
                                      have hnb85 := NB162_165.out
                                      have hnc85 := NB165_162.out
                                      have hcz86_0 : wc.cell? ⟨gb162, 0, none⟩ = some (.int .i64 t166) := (blk_cell BK162.out 0).trans rfl
                                      have hcz86_1 : wc.cell? ⟨gb162, 1, none⟩ = some (.int .i64 t167) := (blk_cell BK162.out 1).trans rfl
                                      have hfz86_0 := blk_frozen BK162.out 0
                                      have hfz86_1 := blk_frozen BK162.out 1
                                      go_wp2_with (first | ((with_reducible refine gate_callee (f := 10) rfl ?_); refine goesL_ (some 94) rfl rfl Tryd.func10 (by kernel_rfl) rfl #[.agg #[.int .i64 t166, .int .i64 t167], .int .i64 ((rd_T26 l0 x8_1).f3), .int .u64 ((rd_T26 l0 x8_1).f0), .bool true, .int .i64 (wrap64 ((wrap64 (Int.tmod a1 20)) + 1))] rfl (by (try simp only [List.map_toArray, List.map_cons, List.map_nil]); first | done | rfl | (simp only [List.length_drop, List.length_take]; rfl)) ?_; (with_reducible refine (turn_Turn_Pick.calls t166 t167 ((rd_T26 l0 x8_1).f3) ((rd_T26 l0 x8_1).f0) true (wrap64 ((wrap64 (Int.tmod a1 20)) + 1)) t172 t173 true _ A64.out).mono ?_); rintro e w87 ⟨rfl, hb⟩; refine ⟨_, rfl, ?_⟩; have n0_ := Aside0.mk (blk_below (g := gb162) (o := .cells #[.int .i64 t166, .int .i64 t167] 23 (0, 0)) (by (with_reducible repeat (first | refine blk_drewN ?_ _ | refine blk_drew ?_ | refine blk_alloc ?_ _)); exact BK162.out) hb); have n1_ := Aside0.mk (blk_below (g := gb164) (o := .cells #[.int .u64 ((rd_T26 l0 x8_1).f0), .bool ((rd_T26 l0 x8_1).f1), .bool ((rd_T26 l0 x8_1).f2), .int .i64 ((rd_T26 l0 x8_1).f3)] 26 (0, 0)) (by (with_reducible repeat (first | refine blk_drewN ?_ _ | refine blk_drew ?_ | refine blk_alloc ?_ _)); exact BK164.out) hb); have n2_ := Aside0.mk (blk_below (g := gb165) (o := .cells #[.int .i64 x163000_1, .int .i64 x163001_1] 23 (0, 0)) (by (with_reducible repeat (first | refine blk_drewN ?_ _ | refine blk_drew ?_ | refine blk_alloc ?_ _)); exact BK165.out) hb); have n3_ := Aside0.mk (below_step (by repeat (first | (with_reducible first | exact HB.out | apply below_alloc | apply pw_below_drewN | apply below_drew1 | refine below_set ?_ GE162.out | refine below_set ?_ GE164.out | refine below_set ?_ GE165.out) | exact HB.out)) hb); clear BK162; clear BK164; clear BK165; clear HB; have BK162 := n0_; have BK164 := n1_; have BK165 := n2_; have HB := n3_; clear n0_ n1_ n2_ n3_; (try clear hb); (try clear hb2); (try clear hk); (try clear hi)) | ((with_reducible refine gate_dst (N := 11) rfl ?_); refine box_event ?hg (N := 11) ?hd (cs := #[.int .i64 0, .int .i64 0]) (t := 23) ?hr ?_; (case hd => rfl); (case hg => rfl); (case hr => first | (go_simp; done) | (go_simp; rfl)); intro gb175 hg w88 hbox hb; have n0_ := Aside0.mk (blk_below (g := gb162) (o := .cells #[.int .i64 t166, .int .i64 t167] 23 (0, 0)) (by (with_reducible repeat (first | refine blk_drewN ?_ _ | refine blk_drew ?_ | refine blk_alloc ?_ _)); exact BK162.out) hb); have n1_ := Aside0.mk (blk_below (g := gb164) (o := .cells #[.int .u64 ((rd_T26 l0 x8_1).f0), .bool ((rd_T26 l0 x8_1).f1), .bool ((rd_T26 l0 x8_1).f2), .int .i64 ((rd_T26 l0 x8_1).f3)] 26 (0, 0)) (by (with_reducible repeat (first | refine blk_drewN ?_ _ | refine blk_drew ?_ | refine blk_alloc ?_ _)); exact BK164.out) hb); have n2_ := Aside0.mk (blk_below (g := gb165) (o := .cells #[.int .i64 x163000_1, .int .i64 x163001_1] 23 (0, 0)) (by (with_reducible repeat (first | refine blk_drewN ?_ _ | refine blk_drew ?_ | refine blk_alloc ?_ _)); exact BK165.out) hb); have n3_ := Aside0.mk (below_step (by repeat (first | (with_reducible first | exact HB.out | apply below_alloc | apply pw_below_drewN | apply below_drew1 | refine below_set ?_ GE162.out | refine below_set ?_ GE164.out | refine below_set ?_ GE165.out) | exact HB.out)) hb); have n4_ := Aside0.mk (hbox); have n5_ := Aside0.mk ((by rw [hg]; exact (below_size (by repeat (first | (with_reducible first | exact HB.out | apply below_alloc | apply pw_below_drewN | apply below_drew1 | refine below_set ?_ GE162.out | refine below_set ?_ GE164.out | refine below_set ?_ GE165.out) | exact HB.out))) : w.heap.size ≤ gb175)); have n6_ := Aside0.mk ((by rw [hg]; exact (below_size (by repeat (first | (with_reducible first | exact HB.out | apply below_alloc | apply pw_below_drewN | apply below_drew1 | refine below_set ?_ GE162.out | refine below_set ?_ GE164.out | refine below_set ?_ GE165.out) | exact HB.out))) : w.heap.size ≤ gb175)); have n7_ := Aside0.mk ((by rw [hg]; exact Nat.ne_of_lt (blk_lt (g := gb162) (o := .cells #[.int .i64 t166, .int .i64 t167] 23 (0, 0)) (by (with_reducible repeat (first | refine blk_drewN ?_ _ | refine blk_drew ?_ | refine blk_alloc ?_ _)); exact BK162.out)) : gb162 ≠ gb175)); have n8_ := Aside0.mk ((by rw [hg]; exact Nat.ne_of_gt (blk_lt (g := gb162) (o := .cells #[.int .i64 t166, .int .i64 t167] 23 (0, 0)) (by (with_reducible repeat (first | refine blk_drewN ?_ _ | refine blk_drew ?_ | refine blk_alloc ?_ _)); exact BK162.out)) : gb175 ≠ gb162)); have n9_ := Aside0.mk ((by rw [hg]; exact Nat.ne_of_lt (blk_lt (g := gb164) (o := .cells #[.int .u64 ((rd_T26 l0 x8_1).f0), .bool ((rd_T26 l0 x8_1).f1), .bool ((rd_T26 l0 x8_1).f2), .int .i64 ((rd_T26 l0 x8_1).f3)] 26 (0, 0)) (by (with_reducible repeat (first | refine blk_drewN ?_ _ | refine blk_drew ?_ | refine blk_alloc ?_ _)); exact BK164.out)) : gb164 ≠ gb175)); have n10_ := Aside0.mk ((by rw [hg]; exact Nat.ne_of_gt (blk_lt (g := gb164) (o := .cells #[.int .u64 ((rd_T26 l0 x8_1).f0), .bool ((rd_T26 l0 x8_1).f1), .bool ((rd_T26 l0 x8_1).f2), .int .i64 ((rd_T26 l0 x8_1).f3)] 26 (0, 0)) (by (with_reducible repeat (first | refine blk_drewN ?_ _ | refine blk_drew ?_ | refine blk_alloc ?_ _)); exact BK164.out)) : gb175 ≠ gb164)); have n11_ := Aside0.mk ((by rw [hg]; exact Nat.ne_of_lt (blk_lt (g := gb165) (o := .cells #[.int .i64 x163000_1, .int .i64 x163001_1] 23 (0, 0)) (by (with_reducible repeat (first | refine blk_drewN ?_ _ | refine blk_drew ?_ | refine blk_alloc ?_ _)); exact BK165.out)) : gb165 ≠ gb175)); have n12_ := Aside0.mk ((by rw [hg]; exact Nat.ne_of_gt (blk_lt (g := gb165) (o := .cells #[.int .i64 x163000_1, .int .i64 x163001_1] 23 (0, 0)) (by (with_reducible repeat (first | refine blk_drewN ?_ _ | refine blk_drew ?_ | refine blk_alloc ?_ _)); exact BK165.out)) : gb175 ≠ gb165)); clear BK162; clear BK164; clear BK165; clear HB; have BK162 := n0_; have BK164 := n1_; have BK165 := n2_; have HB := n3_; have BK175 := n4_; have GW175 := n5_; have GE175 := n6_; have NB162_175 := n7_; have NB175_162 := n8_; have NB164_175 := n9_; have NB175_164 := n10_; have NB165_175 := n11_; have NB175_165 := n12_; clear n0_ n1_ n2_ n3_ n4_ n5_ n6_ n7_ n8_ n9_ n10_ n11_ n12_; clear hb hbox hg; have hnb89 := NB175_162.out; have hnc89 := NB162_175.out; have hnb90 := NB175_164.out; have hnc90 := NB164_175.out; have hnb91 := NB175_165.out; have hnc91 := NB165_175.out; have hcz92_0 : w88.cell? ⟨gb175, 0, none⟩ = some (.int .i64 0) := (blk_cell BK175.out 0).trans rfl; have hcz92_1 : w88.cell? ⟨gb175, 1, none⟩ = some (.int .i64 0) := (blk_cell BK175.out 1).trans rfl; have hfz92_0 := blk_frozen BK175.out 0; have hfz92_1 := blk_frozen BK175.out 1; have hcz93_0 : w88.cell? ⟨gb164, 0, none⟩ = some (.int .u64 ((rd_T26 l0 x8_1).f0)) := (blk_cell BK164.out 0).trans rfl; have hcz93_1 : w88.cell? ⟨gb164, 1, none⟩ = some (.bool ((rd_T26 l0 x8_1).f1)) := (blk_cell BK164.out 1).trans rfl; have hcz93_2 : w88.cell? ⟨gb164, 2, none⟩ = some (.bool ((rd_T26 l0 x8_1).f2)) := (blk_cell BK164.out 2).trans rfl; have hcz93_3 : w88.cell? ⟨gb164, 3, none⟩ = some (.int .i64 ((rd_T26 l0 x8_1).f3)) := (blk_cell BK164.out 3).trans rfl; have hfz93_0 := blk_frozen BK164.out 0; have hfz93_1 := blk_frozen BK164.out 1; have hfz93_2 := blk_frozen BK164.out 2; have hfz93_3 := blk_frozen BK164.out 3; have hcz94_0 : w88.cell? ⟨gb162, 0, none⟩ = some (.int .i64 t166) := (blk_cell BK162.out 0).trans rfl; have hcz94_1 : w88.cell? ⟨gb162, 1, none⟩ = some (.int .i64 t167) := (blk_cell BK162.out 1).trans rfl; have hfz94_0 := blk_frozen BK162.out 0; have hfz94_1 := blk_frozen BK162.out 1))
                                      go_roundg kj43
                                      case measure => have := HK1.out; have := HJ14.out; have := HJ43.out; omega
                                      case rel => exact ⟨(wrap64 (x8_1 + 1)), (t172), (t173), (by first | rfl | (simp; done) | (simp [*]; done)), H', ⟨by have := HK1.out; have := HJ14.out; have := HJ43.out; omega⟩, ⟨by (with_reducible repeat (first | refine blk_drewN ?_ _ | refine blk_drew ?_ | refine blk_alloc ?_ _)); refine blk_put (cs := #[.int .i64 t172, .int .i64 t167]) ?_ 1 _ rfl; (with_reducible repeat (first | refine blk_drewN ?_ _ | refine blk_drew ?_ | refine blk_alloc ?_ _)); refine blk_put (cs := #[.int .i64 t166, .int .i64 t167]) ?_ 0 _ rfl; (with_reducible repeat (first | refine blk_drewN ?_ _ | refine blk_drew ?_ | refine blk_alloc ?_ _)); refine blk_far ?_ NB162_175.out _; (with_reducible repeat (first | refine blk_drewN ?_ _ | refine blk_drew ?_ | refine blk_alloc ?_ _)); refine blk_far ?_ NB162_175.out _; (with_reducible repeat (first | refine blk_drewN ?_ _ | refine blk_drew ?_ | refine blk_alloc ?_ _)); exact BK162.out⟩, ⟨by repeat (first | (with_reducible first | exact HB.out | apply below_alloc | apply pw_below_drewN | apply below_drew1 | refine below_set ?_ GE162.out | refine below_set ?_ GE164.out | refine below_set ?_ GE165.out | refine below_set ?_ GE175.out) | exact HB.out)⟩⟩
                                    · rw [if_neg c81] at H
                                      have c81b0 : (t173 == (wrap64 ((wrap64 (Int.tmod a1 20)) + 1))) = false := beq_eq_false_iff_ne.mpr c81
                                      have c81b1 : (t173 != (wrap64 ((wrap64 (Int.tmod a1 20)) + 1))) = true := bne_iff_ne.mpr c81
                                      obtain rfl := Option.some.inj H
                                      have hnb95 := NB164_162.out
                                      have hnc95 := NB162_164.out
                                      have hnb96 := NB164_165.out
                                      have hnc96 := NB165_164.out
                                      have hcz97_0 : wc.cell? ⟨gb164, 0, none⟩ = some (.int .u64 ((rd_T26 l0 x8_1).f0)) := (blk_cell BK164.out 0).trans rfl
                                      have hcz97_1 : wc.cell? ⟨gb164, 1, none⟩ = some (.bool ((rd_T26 l0 x8_1).f1)) := (blk_cell BK164.out 1).trans rfl
                                      have hcz97_2 : wc.cell? ⟨gb164, 2, none⟩ = some (.bool ((rd_T26 l0 x8_1).f2)) := (blk_cell BK164.out 2).trans rfl
                                      have hcz97_3 : wc.cell? ⟨gb164, 3, none⟩ = some (.int .i64 ((rd_T26 l0 x8_1).f3)) := (blk_cell BK164.out 3).trans rfl
                                      have hfz97_0 := blk_frozen BK164.out 0
                                      have hfz97_1 := blk_frozen BK164.out 1
                                      have hfz97_2 := blk_frozen BK164.out 2
                                      have hfz97_3 := blk_frozen BK164.out 3
                                      have hnb98 := NB162_165.out
                                      have hnc98 := NB165_162.out
                                      have hcz99_0 : wc.cell? ⟨gb162, 0, none⟩ = some (.int .i64 t166) := (blk_cell BK162.out 0).trans rfl
                                      have hcz99_1 : wc.cell? ⟨gb162, 1, none⟩ = some (.int .i64 t167) := (blk_cell BK162.out 1).trans rfl
                                      have hfz99_0 := blk_frozen BK162.out 0
                                      have hfz99_1 := blk_frozen BK162.out 1
                                      go_wp2_with (first | ((with_reducible refine gate_callee (f := 10) rfl ?_); refine goesL_ (some 94) rfl rfl Tryd.func10 (by kernel_rfl) rfl #[.agg #[.int .i64 t166, .int .i64 t167], .int .i64 ((rd_T26 l0 x8_1).f3), .int .u64 ((rd_T26 l0 x8_1).f0), .bool true, .int .i64 (wrap64 ((wrap64 (Int.tmod a1 20)) + 1))] rfl (by (try simp only [List.map_toArray, List.map_cons, List.map_nil]); first | done | rfl | (simp only [List.length_drop, List.length_take]; rfl)) ?_; (with_reducible refine (turn_Turn_Pick.calls t166 t167 ((rd_T26 l0 x8_1).f3) ((rd_T26 l0 x8_1).f0) true (wrap64 ((wrap64 (Int.tmod a1 20)) + 1)) t172 t173 true _ A64.out).mono ?_); rintro e w100 ⟨rfl, hb⟩; refine ⟨_, rfl, ?_⟩; have n0_ := Aside0.mk (blk_below (g := gb162) (o := .cells #[.int .i64 t166, .int .i64 t167] 23 (0, 0)) (by (with_reducible repeat (first | refine blk_drewN ?_ _ | refine blk_drew ?_ | refine blk_alloc ?_ _)); exact BK162.out) hb); have n1_ := Aside0.mk (blk_below (g := gb164) (o := .cells #[.int .u64 ((rd_T26 l0 x8_1).f0), .bool ((rd_T26 l0 x8_1).f1), .bool ((rd_T26 l0 x8_1).f2), .int .i64 ((rd_T26 l0 x8_1).f3)] 26 (0, 0)) (by (with_reducible repeat (first | refine blk_drewN ?_ _ | refine blk_drew ?_ | refine blk_alloc ?_ _)); exact BK164.out) hb); have n2_ := Aside0.mk (blk_below (g := gb165) (o := .cells #[.int .i64 x163000_1, .int .i64 x163001_1] 23 (0, 0)) (by (with_reducible repeat (first | refine blk_drewN ?_ _ | refine blk_drew ?_ | refine blk_alloc ?_ _)); exact BK165.out) hb); have n3_ := Aside0.mk (below_step (by repeat (first | (with_reducible first | exact HB.out | apply below_alloc | apply pw_below_drewN | apply below_drew1 | refine below_set ?_ GE162.out | refine below_set ?_ GE164.out | refine below_set ?_ GE165.out) | exact HB.out)) hb); clear BK162; clear BK164; clear BK165; clear HB; have BK162 := n0_; have BK164 := n1_; have BK165 := n2_; have HB := n3_; clear n0_ n1_ n2_ n3_; (try clear hb); (try clear hb2); (try clear hk); (try clear hi)) | ((with_reducible refine gate_dst (N := 11) rfl ?_); refine box_event ?hg (N := 11) ?hd (cs := #[.int .i64 0, .int .i64 0]) (t := 23) ?hr ?_; (case hd => rfl); (case hg => rfl); (case hr => first | (go_simp; done) | (go_simp; rfl)); intro gb175 hg w101 hbox hb; have n0_ := Aside0.mk (blk_below (g := gb162) (o := .cells #[.int .i64 t166, .int .i64 t167] 23 (0, 0)) (by (with_reducible repeat (first | refine blk_drewN ?_ _ | refine blk_drew ?_ | refine blk_alloc ?_ _)); exact BK162.out) hb); have n1_ := Aside0.mk (blk_below (g := gb164) (o := .cells #[.int .u64 ((rd_T26 l0 x8_1).f0), .bool ((rd_T26 l0 x8_1).f1), .bool ((rd_T26 l0 x8_1).f2), .int .i64 ((rd_T26 l0 x8_1).f3)] 26 (0, 0)) (by (with_reducible repeat (first | refine blk_drewN ?_ _ | refine blk_drew ?_ | refine blk_alloc ?_ _)); exact BK164.out) hb); have n2_ := Aside0.mk (blk_below (g := gb165) (o := .cells #[.int .i64 x163000_1, .int .i64 x163001_1] 23 (0, 0)) (by (with_reducible repeat (first | refine blk_drewN ?_ _ | refine blk_drew ?_ | refine blk_alloc ?_ _)); exact BK165.out) hb); have n3_ := Aside0.mk (below_step (by repeat (first | (with_reducible first | exact HB.out | apply below_alloc | apply pw_below_drewN | apply below_drew1 | refine below_set ?_ GE162.out | refine below_set ?_ GE164.out | refine below_set ?_ GE165.out) | exact HB.out)) hb); have n4_ := Aside0.mk (hbox); have n5_ := Aside0.mk ((by rw [hg]; exact (below_size (by repeat (first | (with_reducible first | exact HB.out | apply below_alloc | apply pw_below_drewN | apply below_drew1 | refine below_set ?_ GE162.out | refine below_set ?_ GE164.out | refine below_set ?_ GE165.out) | exact HB.out))) : w.heap.size ≤ gb175)); have n6_ := Aside0.mk ((by rw [hg]; exact (below_size (by repeat (first | (with_reducible first | exact HB.out | apply below_alloc | apply pw_below_drewN | apply below_drew1 | refine below_set ?_ GE162.out | refine below_set ?_ GE164.out | refine below_set ?_ GE165.out) | exact HB.out))) : w.heap.size ≤ gb175)); have n7_ := Aside0.mk ((by rw [hg]; exact Nat.ne_of_lt (blk_lt (g := gb162) (o := .cells #[.int .i64 t166, .int .i64 t167] 23 (0, 0)) (by (with_reducible repeat (first | refine blk_drewN ?_ _ | refine blk_drew ?_ | refine blk_alloc ?_ _)); exact BK162.out)) : gb162 ≠ gb175)); have n8_ := Aside0.mk ((by rw [hg]; exact Nat.ne_of_gt (blk_lt (g := gb162) (o := .cells #[.int .i64 t166, .int .i64 t167] 23 (0, 0)) (by (with_reducible repeat (first | refine blk_drewN ?_ _ | refine blk_drew ?_ | refine blk_alloc ?_ _)); exact BK162.out)) : gb175 ≠ gb162)); have n9_ := Aside0.mk ((by rw [hg]; exact Nat.ne_of_lt (blk_lt (g := gb164) (o := .cells #[.int .u64 ((rd_T26 l0 x8_1).f0), .bool ((rd_T26 l0 x8_1).f1), .bool ((rd_T26 l0 x8_1).f2), .int .i64 ((rd_T26 l0 x8_1).f3)] 26 (0, 0)) (by (with_reducible repeat (first | refine blk_drewN ?_ _ | refine blk_drew ?_ | refine blk_alloc ?_ _)); exact BK164.out)) : gb164 ≠ gb175)); have n10_ := Aside0.mk ((by rw [hg]; exact Nat.ne_of_gt (blk_lt (g := gb164) (o := .cells #[.int .u64 ((rd_T26 l0 x8_1).f0), .bool ((rd_T26 l0 x8_1).f1), .bool ((rd_T26 l0 x8_1).f2), .int .i64 ((rd_T26 l0 x8_1).f3)] 26 (0, 0)) (by (with_reducible repeat (first | refine blk_drewN ?_ _ | refine blk_drew ?_ | refine blk_alloc ?_ _)); exact BK164.out)) : gb175 ≠ gb164)); have n11_ := Aside0.mk ((by rw [hg]; exact Nat.ne_of_lt (blk_lt (g := gb165) (o := .cells #[.int .i64 x163000_1, .int .i64 x163001_1] 23 (0, 0)) (by (with_reducible repeat (first | refine blk_drewN ?_ _ | refine blk_drew ?_ | refine blk_alloc ?_ _)); exact BK165.out)) : gb165 ≠ gb175)); have n12_ := Aside0.mk ((by rw [hg]; exact Nat.ne_of_gt (blk_lt (g := gb165) (o := .cells #[.int .i64 x163000_1, .int .i64 x163001_1] 23 (0, 0)) (by (with_reducible repeat (first | refine blk_drewN ?_ _ | refine blk_drew ?_ | refine blk_alloc ?_ _)); exact BK165.out)) : gb175 ≠ gb165)); clear BK162; clear BK164; clear BK165; clear HB; have BK162 := n0_; have BK164 := n1_; have BK165 := n2_; have HB := n3_; have BK175 := n4_; have GW175 := n5_; have GE175 := n6_; have NB162_175 := n7_; have NB175_162 := n8_; have NB164_175 := n9_; have NB175_164 := n10_; have NB165_175 := n11_; have NB175_165 := n12_; clear n0_ n1_ n2_ n3_ n4_ n5_ n6_ n7_ n8_ n9_ n10_ n11_ n12_; clear hb hbox hg; have hnb102 := NB175_162.out; have hnc102 := NB162_175.out; have hnb103 := NB175_164.out; have hnc103 := NB164_175.out; have hnb104 := NB175_165.out; have hnc104 := NB165_175.out; have hcz105_0 : w101.cell? ⟨gb175, 0, none⟩ = some (.int .i64 0) := (blk_cell BK175.out 0).trans rfl; have hcz105_1 : w101.cell? ⟨gb175, 1, none⟩ = some (.int .i64 0) := (blk_cell BK175.out 1).trans rfl; have hfz105_0 := blk_frozen BK175.out 0; have hfz105_1 := blk_frozen BK175.out 1; have hcz106_0 : w101.cell? ⟨gb164, 0, none⟩ = some (.int .u64 ((rd_T26 l0 x8_1).f0)) := (blk_cell BK164.out 0).trans rfl; have hcz106_1 : w101.cell? ⟨gb164, 1, none⟩ = some (.bool ((rd_T26 l0 x8_1).f1)) := (blk_cell BK164.out 1).trans rfl; have hcz106_2 : w101.cell? ⟨gb164, 2, none⟩ = some (.bool ((rd_T26 l0 x8_1).f2)) := (blk_cell BK164.out 2).trans rfl; have hcz106_3 : w101.cell? ⟨gb164, 3, none⟩ = some (.int .i64 ((rd_T26 l0 x8_1).f3)) := (blk_cell BK164.out 3).trans rfl; have hfz106_0 := blk_frozen BK164.out 0; have hfz106_1 := blk_frozen BK164.out 1; have hfz106_2 := blk_frozen BK164.out 2; have hfz106_3 := blk_frozen BK164.out 3))
                                      go_ret
                                      exact ⟨by first | rfl | (simp [errW_none, errW_some] <;> rfl) | (simp [*, errW_none, errW_some] <;> rfl), by repeat (first | (with_reducible first | exact HB.out | apply below_alloc | apply pw_below_drewN | apply below_drew1 | refine below_set ?_ GE162.out | refine below_set ?_ GE164.out | refine below_set ?_ GE165.out | refine below_set ?_ GE175.out) | exact HB.out)⟩
                                  · rw [if_neg c80] at H
                                    have c80b0 : (t172 == ((rd_T26 l0 x8_1).f3)) = false := beq_eq_false_iff_ne.mpr c80
                                    have c80b1 : (t172 != ((rd_T26 l0 x8_1).f3)) = true := bne_iff_ne.mpr c80
                                    obtain rfl := Option.some.inj H
                                    have hnb107 := NB164_162.out
                                    have hnc107 := NB162_164.out
                                    have hnb108 := NB164_165.out
                                    have hnc108 := NB165_164.out
                                    have hcz109_0 : wc.cell? ⟨gb164, 0, none⟩ = some (.int .u64 ((rd_T26 l0 x8_1).f0)) := (blk_cell BK164.out 0).trans rfl
                                    have hcz109_1 : wc.cell? ⟨gb164, 1, none⟩ = some (.bool ((rd_T26 l0 x8_1).f1)) := (blk_cell BK164.out 1).trans rfl
                                    have hcz109_2 : wc.cell? ⟨gb164, 2, none⟩ = some (.bool ((rd_T26 l0 x8_1).f2)) := (blk_cell BK164.out 2).trans rfl
                                    have hcz109_3 : wc.cell? ⟨gb164, 3, none⟩ = some (.int .i64 ((rd_T26 l0 x8_1).f3)) := (blk_cell BK164.out 3).trans rfl
                                    have hfz109_0 := blk_frozen BK164.out 0
                                    have hfz109_1 := blk_frozen BK164.out 1
                                    have hfz109_2 := blk_frozen BK164.out 2
                                    have hfz109_3 := blk_frozen BK164.out 3
                                    have hnb110 := NB162_165.out
                                    have hnc110 := NB165_162.out
                                    have hcz111_0 : wc.cell? ⟨gb162, 0, none⟩ = some (.int .i64 t166) := (blk_cell BK162.out 0).trans rfl
                                    have hcz111_1 : wc.cell? ⟨gb162, 1, none⟩ = some (.int .i64 t167) := (blk_cell BK162.out 1).trans rfl
                                    have hfz111_0 := blk_frozen BK162.out 0
                                    have hfz111_1 := blk_frozen BK162.out 1
                                    go_wp2_with (first | ((with_reducible refine gate_callee (f := 10) rfl ?_); refine goesL_ (some 94) rfl rfl Tryd.func10 (by kernel_rfl) rfl #[.agg #[.int .i64 t166, .int .i64 t167], .int .i64 ((rd_T26 l0 x8_1).f3), .int .u64 ((rd_T26 l0 x8_1).f0), .bool true, .int .i64 (wrap64 ((wrap64 (Int.tmod a1 20)) + 1))] rfl (by (try simp only [List.map_toArray, List.map_cons, List.map_nil]); first | done | rfl | (simp only [List.length_drop, List.length_take]; rfl)) ?_; (with_reducible refine (turn_Turn_Pick.calls t166 t167 ((rd_T26 l0 x8_1).f3) ((rd_T26 l0 x8_1).f0) true (wrap64 ((wrap64 (Int.tmod a1 20)) + 1)) t172 t173 true _ A64.out).mono ?_); rintro e w112 ⟨rfl, hb⟩; refine ⟨_, rfl, ?_⟩; have n0_ := Aside0.mk (blk_below (g := gb162) (o := .cells #[.int .i64 t166, .int .i64 t167] 23 (0, 0)) (by (with_reducible repeat (first | refine blk_drewN ?_ _ | refine blk_drew ?_ | refine blk_alloc ?_ _)); exact BK162.out) hb); have n1_ := Aside0.mk (blk_below (g := gb164) (o := .cells #[.int .u64 ((rd_T26 l0 x8_1).f0), .bool ((rd_T26 l0 x8_1).f1), .bool ((rd_T26 l0 x8_1).f2), .int .i64 ((rd_T26 l0 x8_1).f3)] 26 (0, 0)) (by (with_reducible repeat (first | refine blk_drewN ?_ _ | refine blk_drew ?_ | refine blk_alloc ?_ _)); exact BK164.out) hb); have n2_ := Aside0.mk (blk_below (g := gb165) (o := .cells #[.int .i64 x163000_1, .int .i64 x163001_1] 23 (0, 0)) (by (with_reducible repeat (first | refine blk_drewN ?_ _ | refine blk_drew ?_ | refine blk_alloc ?_ _)); exact BK165.out) hb); have n3_ := Aside0.mk (below_step (by repeat (first | (with_reducible first | exact HB.out | apply below_alloc | apply pw_below_drewN | apply below_drew1 | refine below_set ?_ GE162.out | refine below_set ?_ GE164.out | refine below_set ?_ GE165.out) | exact HB.out)) hb); clear BK162; clear BK164; clear BK165; clear HB; have BK162 := n0_; have BK164 := n1_; have BK165 := n2_; have HB := n3_; clear n0_ n1_ n2_ n3_; (try clear hb); (try clear hb2); (try clear hk); (try clear hi)) | ((with_reducible refine gate_dst (N := 11) rfl ?_); refine box_event ?hg (N := 11) ?hd (cs := #[.int .i64 0, .int .i64 0]) (t := 23) ?hr ?_; (case hd => rfl); (case hg => rfl); (case hr => first | (go_simp; done) | (go_simp; rfl)); intro gb175 hg w113 hbox hb; have n0_ := Aside0.mk (blk_below (g := gb162) (o := .cells #[.int .i64 t166, .int .i64 t167] 23 (0, 0)) (by (with_reducible repeat (first | refine blk_drewN ?_ _ | refine blk_drew ?_ | refine blk_alloc ?_ _)); exact BK162.out) hb); have n1_ := Aside0.mk (blk_below (g := gb164) (o := .cells #[.int .u64 ((rd_T26 l0 x8_1).f0), .bool ((rd_T26 l0 x8_1).f1), .bool ((rd_T26 l0 x8_1).f2), .int .i64 ((rd_T26 l0 x8_1).f3)] 26 (0, 0)) (by (with_reducible repeat (first | refine blk_drewN ?_ _ | refine blk_drew ?_ | refine blk_alloc ?_ _)); exact BK164.out) hb); have n2_ := Aside0.mk (blk_below (g := gb165) (o := .cells #[.int .i64 x163000_1, .int .i64 x163001_1] 23 (0, 0)) (by (with_reducible repeat (first | refine blk_drewN ?_ _ | refine blk_drew ?_ | refine blk_alloc ?_ _)); exact BK165.out) hb); have n3_ := Aside0.mk (below_step (by repeat (first | (with_reducible first | exact HB.out | apply below_alloc | apply pw_below_drewN | apply below_drew1 | refine below_set ?_ GE162.out | refine below_set ?_ GE164.out | refine below_set ?_ GE165.out) | exact HB.out)) hb); have n4_ := Aside0.mk (hbox); have n5_ := Aside0.mk ((by rw [hg]; exact (below_size (by repeat (first | (with_reducible first | exact HB.out | apply below_alloc | apply pw_below_drewN | apply below_drew1 | refine below_set ?_ GE162.out | refine below_set ?_ GE164.out | refine below_set ?_ GE165.out) | exact HB.out))) : w.heap.size ≤ gb175)); have n6_ := Aside0.mk ((by rw [hg]; exact (below_size (by repeat (first | (with_reducible first | exact HB.out | apply below_alloc | apply pw_below_drewN | apply below_drew1 | refine below_set ?_ GE162.out | refine below_set ?_ GE164.out | refine below_set ?_ GE165.out) | exact HB.out))) : w.heap.size ≤ gb175)); have n7_ := Aside0.mk ((by rw [hg]; exact Nat.ne_of_lt (blk_lt (g := gb162) (o := .cells #[.int .i64 t166, .int .i64 t167] 23 (0, 0)) (by (with_reducible repeat (first | refine blk_drewN ?_ _ | refine blk_drew ?_ | refine blk_alloc ?_ _)); exact BK162.out)) : gb162 ≠ gb175)); have n8_ := Aside0.mk ((by rw [hg]; exact Nat.ne_of_gt (blk_lt (g := gb162) (o := .cells #[.int .i64 t166, .int .i64 t167] 23 (0, 0)) (by (with_reducible repeat (first | refine blk_drewN ?_ _ | refine blk_drew ?_ | refine blk_alloc ?_ _)); exact BK162.out)) : gb175 ≠ gb162)); have n9_ := Aside0.mk ((by rw [hg]; exact Nat.ne_of_lt (blk_lt (g := gb164) (o := .cells #[.int .u64 ((rd_T26 l0 x8_1).f0), .bool ((rd_T26 l0 x8_1).f1), .bool ((rd_T26 l0 x8_1).f2), .int .i64 ((rd_T26 l0 x8_1).f3)] 26 (0, 0)) (by (with_reducible repeat (first | refine blk_drewN ?_ _ | refine blk_drew ?_ | refine blk_alloc ?_ _)); exact BK164.out)) : gb164 ≠ gb175)); have n10_ := Aside0.mk ((by rw [hg]; exact Nat.ne_of_gt (blk_lt (g := gb164) (o := .cells #[.int .u64 ((rd_T26 l0 x8_1).f0), .bool ((rd_T26 l0 x8_1).f1), .bool ((rd_T26 l0 x8_1).f2), .int .i64 ((rd_T26 l0 x8_1).f3)] 26 (0, 0)) (by (with_reducible repeat (first | refine blk_drewN ?_ _ | refine blk_drew ?_ | refine blk_alloc ?_ _)); exact BK164.out)) : gb175 ≠ gb164)); have n11_ := Aside0.mk ((by rw [hg]; exact Nat.ne_of_lt (blk_lt (g := gb165) (o := .cells #[.int .i64 x163000_1, .int .i64 x163001_1] 23 (0, 0)) (by (with_reducible repeat (first | refine blk_drewN ?_ _ | refine blk_drew ?_ | refine blk_alloc ?_ _)); exact BK165.out)) : gb165 ≠ gb175)); have n12_ := Aside0.mk ((by rw [hg]; exact Nat.ne_of_gt (blk_lt (g := gb165) (o := .cells #[.int .i64 x163000_1, .int .i64 x163001_1] 23 (0, 0)) (by (with_reducible repeat (first | refine blk_drewN ?_ _ | refine blk_drew ?_ | refine blk_alloc ?_ _)); exact BK165.out)) : gb175 ≠ gb165)); clear BK162; clear BK164; clear BK165; clear HB; have BK162 := n0_; have BK164 := n1_; have BK165 := n2_; have HB := n3_; have BK175 := n4_; have GW175 := n5_; have GE175 := n6_; have NB162_175 := n7_; have NB175_162 := n8_; have NB164_175 := n9_; have NB175_164 := n10_; have NB165_175 := n11_; have NB175_165 := n12_; clear n0_ n1_ n2_ n3_ n4_ n5_ n6_ n7_ n8_ n9_ n10_ n11_ n12_; clear hb hbox hg; have hnb114 := NB175_162.out; have hnc114 := NB162_175.out; have hnb115 := NB175_164.out; have hnc115 := NB164_175.out; have hnb116 := NB175_165.out; have hnc116 := NB165_175.out; have hcz117_0 : w113.cell? ⟨gb175, 0, none⟩ = some (.int .i64 0) := (blk_cell BK175.out 0).trans rfl; have hcz117_1 : w113.cell? ⟨gb175, 1, none⟩ = some (.int .i64 0) := (blk_cell BK175.out 1).trans rfl; have hfz117_0 := blk_frozen BK175.out 0; have hfz117_1 := blk_frozen BK175.out 1; have hcz118_0 : w113.cell? ⟨gb164, 0, none⟩ = some (.int .u64 ((rd_T26 l0 x8_1).f0)) := (blk_cell BK164.out 0).trans rfl; have hcz118_1 : w113.cell? ⟨gb164, 1, none⟩ = some (.bool ((rd_T26 l0 x8_1).f1)) := (blk_cell BK164.out 1).trans rfl; have hcz118_2 : w113.cell? ⟨gb164, 2, none⟩ = some (.bool ((rd_T26 l0 x8_1).f2)) := (blk_cell BK164.out 2).trans rfl; have hcz118_3 : w113.cell? ⟨gb164, 3, none⟩ = some (.int .i64 ((rd_T26 l0 x8_1).f3)) := (blk_cell BK164.out 3).trans rfl; have hfz118_0 := blk_frozen BK164.out 0; have hfz118_1 := blk_frozen BK164.out 1; have hfz118_2 := blk_frozen BK164.out 2; have hfz118_3 := blk_frozen BK164.out 3))
                                    go_ret
                                    exact ⟨by first | rfl | (simp [errW_none, errW_some] <;> rfl) | (simp [*, errW_none, errW_some] <;> rfl), by repeat (first | (with_reducible first | exact HB.out | apply below_alloc | apply pw_below_drewN | apply below_drew1 | refine below_set ?_ GE162.out | refine below_set ?_ GE164.out | refine below_set ?_ GE165.out | refine below_set ?_ GE175.out) | exact HB.out)⟩
                                · replace c79 := Bool.eq_false_iff.mpr c79
                                  subst c79
                                  have H1 : (if (!(t172 == t166) || (!(t173 == t167))) = true then (some false) else (paternosterlaw20_TurnReady.l0 kj43 l0 (wrap64 ((wrap64 (Int.tmod a1 20)) + 1)) (wrap64 (x8_1 + 1)) t172 t173)) = some r := by rw [if_neg (show ¬ (false = true) by decide)] at H; exact H
                                  clear H
                                  have H := H1
                                  clear H1
                                  by_cases c119 : (!(t172 == t166) || (!(t173 == t167))) = true
                                  · rw [if_pos c119] at H
                                    have c119b0 : (!(t172 == t166) || (!(t173 == t167))) = true := c119
                                    clear c119
                                    obtain rfl := Option.some.inj H
                                    have hnb120 := NB164_162.out
                                    have hnc120 := NB162_164.out
                                    have hnb121 := NB164_165.out
                                    have hnc121 := NB165_164.out
                                    have hcz122_0 : wc.cell? ⟨gb164, 0, none⟩ = some (.int .u64 ((rd_T26 l0 x8_1).f0)) := (blk_cell BK164.out 0).trans rfl
                                    have hcz122_1 : wc.cell? ⟨gb164, 1, none⟩ = some (.bool ((rd_T26 l0 x8_1).f1)) := (blk_cell BK164.out 1).trans rfl
                                    have hcz122_2 : wc.cell? ⟨gb164, 2, none⟩ = some (.bool ((rd_T26 l0 x8_1).f2)) := (blk_cell BK164.out 2).trans rfl
                                    have hcz122_3 : wc.cell? ⟨gb164, 3, none⟩ = some (.int .i64 ((rd_T26 l0 x8_1).f3)) := (blk_cell BK164.out 3).trans rfl
                                    have hfz122_0 := blk_frozen BK164.out 0
                                    have hfz122_1 := blk_frozen BK164.out 1
                                    have hfz122_2 := blk_frozen BK164.out 2
                                    have hfz122_3 := blk_frozen BK164.out 3
                                    have hnb123 := NB162_165.out
                                    have hnc123 := NB165_162.out
                                    have hcz124_0 : wc.cell? ⟨gb162, 0, none⟩ = some (.int .i64 t166) := (blk_cell BK162.out 0).trans rfl
                                    have hcz124_1 : wc.cell? ⟨gb162, 1, none⟩ = some (.int .i64 t167) := (blk_cell BK162.out 1).trans rfl
                                    have hfz124_0 := blk_frozen BK162.out 0
                                    have hfz124_1 := blk_frozen BK162.out 1
                                    go_wp2_with (first | ((with_reducible refine gate_callee (f := 10) rfl ?_); refine goesL_ (some 94) rfl rfl Tryd.func10 (by kernel_rfl) rfl #[.agg #[.int .i64 t166, .int .i64 t167], .int .i64 ((rd_T26 l0 x8_1).f3), .int .u64 ((rd_T26 l0 x8_1).f0), .bool true, .int .i64 (wrap64 ((wrap64 (Int.tmod a1 20)) + 1))] rfl (by (try simp only [List.map_toArray, List.map_cons, List.map_nil]); first | done | rfl | (simp only [List.length_drop, List.length_take]; rfl)) ?_; (with_reducible refine (turn_Turn_Pick.calls t166 t167 ((rd_T26 l0 x8_1).f3) ((rd_T26 l0 x8_1).f0) true (wrap64 ((wrap64 (Int.tmod a1 20)) + 1)) t172 t173 false _ A64.out).mono ?_); rintro e w125 ⟨rfl, hb⟩; refine ⟨_, rfl, ?_⟩; have n0_ := Aside0.mk (blk_below (g := gb162) (o := .cells #[.int .i64 t166, .int .i64 t167] 23 (0, 0)) (by (with_reducible repeat (first | refine blk_drewN ?_ _ | refine blk_drew ?_ | refine blk_alloc ?_ _)); exact BK162.out) hb); have n1_ := Aside0.mk (blk_below (g := gb164) (o := .cells #[.int .u64 ((rd_T26 l0 x8_1).f0), .bool ((rd_T26 l0 x8_1).f1), .bool ((rd_T26 l0 x8_1).f2), .int .i64 ((rd_T26 l0 x8_1).f3)] 26 (0, 0)) (by (with_reducible repeat (first | refine blk_drewN ?_ _ | refine blk_drew ?_ | refine blk_alloc ?_ _)); exact BK164.out) hb); have n2_ := Aside0.mk (blk_below (g := gb165) (o := .cells #[.int .i64 x163000_1, .int .i64 x163001_1] 23 (0, 0)) (by (with_reducible repeat (first | refine blk_drewN ?_ _ | refine blk_drew ?_ | refine blk_alloc ?_ _)); exact BK165.out) hb); have n3_ := Aside0.mk (below_step (by repeat (first | (with_reducible first | exact HB.out | apply below_alloc | apply pw_below_drewN | apply below_drew1 | refine below_set ?_ GE162.out | refine below_set ?_ GE164.out | refine below_set ?_ GE165.out) | exact HB.out)) hb); clear BK162; clear BK164; clear BK165; clear HB; have BK162 := n0_; have BK164 := n1_; have BK165 := n2_; have HB := n3_; clear n0_ n1_ n2_ n3_; (try clear hb); (try clear hb2); (try clear hk); (try clear hi)) | ((with_reducible refine gate_dst (N := 11) rfl ?_); refine box_event ?hg (N := 11) ?hd (cs := #[.int .i64 0, .int .i64 0]) (t := 23) ?hr ?_; (case hd => rfl); (case hg => rfl); (case hr => first | (go_simp; done) | (go_simp; rfl)); intro gb175 hg w126 hbox hb; have n0_ := Aside0.mk (blk_below (g := gb162) (o := .cells #[.int .i64 t166, .int .i64 t167] 23 (0, 0)) (by (with_reducible repeat (first | refine blk_drewN ?_ _ | refine blk_drew ?_ | refine blk_alloc ?_ _)); exact BK162.out) hb); have n1_ := Aside0.mk (blk_below (g := gb164) (o := .cells #[.int .u64 ((rd_T26 l0 x8_1).f0), .bool ((rd_T26 l0 x8_1).f1), .bool ((rd_T26 l0 x8_1).f2), .int .i64 ((rd_T26 l0 x8_1).f3)] 26 (0, 0)) (by (with_reducible repeat (first | refine blk_drewN ?_ _ | refine blk_drew ?_ | refine blk_alloc ?_ _)); exact BK164.out) hb); have n2_ := Aside0.mk (blk_below (g := gb165) (o := .cells #[.int .i64 x163000_1, .int .i64 x163001_1] 23 (0, 0)) (by (with_reducible repeat (first | refine blk_drewN ?_ _ | refine blk_drew ?_ | refine blk_alloc ?_ _)); exact BK165.out) hb); have n3_ := Aside0.mk (below_step (by repeat (first | (with_reducible first | exact HB.out | apply below_alloc | apply pw_below_drewN | apply below_drew1 | refine below_set ?_ GE162.out | refine below_set ?_ GE164.out | refine below_set ?_ GE165.out) | exact HB.out)) hb); have n4_ := Aside0.mk (hbox); have n5_ := Aside0.mk ((by rw [hg]; exact (below_size (by repeat (first | (with_reducible first | exact HB.out | apply below_alloc | apply pw_below_drewN | apply below_drew1 | refine below_set ?_ GE162.out | refine below_set ?_ GE164.out | refine below_set ?_ GE165.out) | exact HB.out))) : w.heap.size ≤ gb175)); have n6_ := Aside0.mk ((by rw [hg]; exact (below_size (by repeat (first | (with_reducible first | exact HB.out | apply below_alloc | apply pw_below_drewN | apply below_drew1 | refine below_set ?_ GE162.out | refine below_set ?_ GE164.out | refine below_set ?_ GE165.out) | exact HB.out))) : w.heap.size ≤ gb175)); have n7_ := Aside0.mk ((by rw [hg]; exact Nat.ne_of_lt (blk_lt (g := gb162) (o := .cells #[.int .i64 t166, .int .i64 t167] 23 (0, 0)) (by (with_reducible repeat (first | refine blk_drewN ?_ _ | refine blk_drew ?_ | refine blk_alloc ?_ _)); exact BK162.out)) : gb162 ≠ gb175)); have n8_ := Aside0.mk ((by rw [hg]; exact Nat.ne_of_gt (blk_lt (g := gb162) (o := .cells #[.int .i64 t166, .int .i64 t167] 23 (0, 0)) (by (with_reducible repeat (first | refine blk_drewN ?_ _ | refine blk_drew ?_ | refine blk_alloc ?_ _)); exact BK162.out)) : gb175 ≠ gb162)); have n9_ := Aside0.mk ((by rw [hg]; exact Nat.ne_of_lt (blk_lt (g := gb164) (o := .cells #[.int .u64 ((rd_T26 l0 x8_1).f0), .bool ((rd_T26 l0 x8_1).f1), .bool ((rd_T26 l0 x8_1).f2), .int .i64 ((rd_T26 l0 x8_1).f3)] 26 (0, 0)) (by (with_reducible repeat (first | refine blk_drewN ?_ _ | refine blk_drew ?_ | refine blk_alloc ?_ _)); exact BK164.out)) : gb164 ≠ gb175)); have n10_ := Aside0.mk ((by rw [hg]; exact Nat.ne_of_gt (blk_lt (g := gb164) (o := .cells #[.int .u64 ((rd_T26 l0 x8_1).f0), .bool ((rd_T26 l0 x8_1).f1), .bool ((rd_T26 l0 x8_1).f2), .int .i64 ((rd_T26 l0 x8_1).f3)] 26 (0, 0)) (by (with_reducible repeat (first | refine blk_drewN ?_ _ | refine blk_drew ?_ | refine blk_alloc ?_ _)); exact BK164.out)) : gb175 ≠ gb164)); have n11_ := Aside0.mk ((by rw [hg]; exact Nat.ne_of_lt (blk_lt (g := gb165) (o := .cells #[.int .i64 x163000_1, .int .i64 x163001_1] 23 (0, 0)) (by (with_reducible repeat (first | refine blk_drewN ?_ _ | refine blk_drew ?_ | refine blk_alloc ?_ _)); exact BK165.out)) : gb165 ≠ gb175)); have n12_ := Aside0.mk ((by rw [hg]; exact Nat.ne_of_gt (blk_lt (g := gb165) (o := .cells #[.int .i64 x163000_1, .int .i64 x163001_1] 23 (0, 0)) (by (with_reducible repeat (first | refine blk_drewN ?_ _ | refine blk_drew ?_ | refine blk_alloc ?_ _)); exact BK165.out)) : gb175 ≠ gb165)); clear BK162; clear BK164; clear BK165; clear HB; have BK162 := n0_; have BK164 := n1_; have BK165 := n2_; have HB := n3_; have BK175 := n4_; have GW175 := n5_; have GE175 := n6_; have NB162_175 := n7_; have NB175_162 := n8_; have NB164_175 := n9_; have NB175_164 := n10_; have NB165_175 := n11_; have NB175_165 := n12_; clear n0_ n1_ n2_ n3_ n4_ n5_ n6_ n7_ n8_ n9_ n10_ n11_ n12_; clear hb hbox hg; have hnb127 := NB175_162.out; have hnc127 := NB162_175.out; have hnb128 := NB175_164.out; have hnc128 := NB164_175.out; have hnb129 := NB175_165.out; have hnc129 := NB165_175.out; have hcz130_0 : w126.cell? ⟨gb175, 0, none⟩ = some (.int .i64 0) := (blk_cell BK175.out 0).trans rfl; have hcz130_1 : w126.cell? ⟨gb175, 1, none⟩ = some (.int .i64 0) := (blk_cell BK175.out 1).trans rfl; have hfz130_0 := blk_frozen BK175.out 0; have hfz130_1 := blk_frozen BK175.out 1; have hcz131_0 : w126.cell? ⟨gb164, 0, none⟩ = some (.int .u64 ((rd_T26 l0 x8_1).f0)) := (blk_cell BK164.out 0).trans rfl; have hcz131_1 : w126.cell? ⟨gb164, 1, none⟩ = some (.bool ((rd_T26 l0 x8_1).f1)) := (blk_cell BK164.out 1).trans rfl; have hcz131_2 : w126.cell? ⟨gb164, 2, none⟩ = some (.bool ((rd_T26 l0 x8_1).f2)) := (blk_cell BK164.out 2).trans rfl; have hcz131_3 : w126.cell? ⟨gb164, 3, none⟩ = some (.int .i64 ((rd_T26 l0 x8_1).f3)) := (blk_cell BK164.out 3).trans rfl; have hfz131_0 := blk_frozen BK164.out 0; have hfz131_1 := blk_frozen BK164.out 1; have hfz131_2 := blk_frozen BK164.out 2; have hfz131_3 := blk_frozen BK164.out 3; have hcz132_0 : w126.cell? ⟨gb162, 0, none⟩ = some (.int .i64 t166) := (blk_cell BK162.out 0).trans rfl; have hcz132_1 : w126.cell? ⟨gb162, 1, none⟩ = some (.int .i64 t167) := (blk_cell BK162.out 1).trans rfl; have hfz132_0 := blk_frozen BK162.out 0; have hfz132_1 := blk_frozen BK162.out 1))
                                    go_ret
                                    exact ⟨by first | rfl | (simp [errW_none, errW_some] <;> rfl) | (simp [*, errW_none, errW_some] <;> rfl), by repeat (first | (with_reducible first | exact HB.out | apply below_alloc | apply pw_below_drewN | apply below_drew1 | refine below_set ?_ GE162.out | refine below_set ?_ GE164.out | refine below_set ?_ GE165.out | refine below_set ?_ GE175.out) | exact HB.out)⟩
                                  · rw [if_neg c119] at H
                                    have c119b0 : (!(t172 == t166) || (!(t173 == t167))) = false := by simpa using c119
                                    clear c119
                                    have H' := Aside0.mk H
                                    clear H
                                    have hnb133 := NB164_162.out
                                    have hnc133 := NB162_164.out
                                    have hnb134 := NB164_165.out
                                    have hnc134 := NB165_164.out
                                    have hcz135_0 : wc.cell? ⟨gb164, 0, none⟩ = some (.int .u64 ((rd_T26 l0 x8_1).f0)) := (blk_cell BK164.out 0).trans rfl
                                    have hcz135_1 : wc.cell? ⟨gb164, 1, none⟩ = some (.bool ((rd_T26 l0 x8_1).f1)) := (blk_cell BK164.out 1).trans rfl
                                    have hcz135_2 : wc.cell? ⟨gb164, 2, none⟩ = some (.bool ((rd_T26 l0 x8_1).f2)) := (blk_cell BK164.out 2).trans rfl
                                    have hcz135_3 : wc.cell? ⟨gb164, 3, none⟩ = some (.int .i64 ((rd_T26 l0 x8_1).f3)) := (blk_cell BK164.out 3).trans rfl
                                    have hfz135_0 := blk_frozen BK164.out 0
                                    have hfz135_1 := blk_frozen BK164.out 1
                                    have hfz135_2 := blk_frozen BK164.out 2
                                    have hfz135_3 := blk_frozen BK164.out 3
                                    have hnb136 := NB162_165.out
                                    have hnc136 := NB165_162.out
                                    have hcz137_0 : wc.cell? ⟨gb162, 0, none⟩ = some (.int .i64 t166) := (blk_cell BK162.out 0).trans rfl
                                    have hcz137_1 : wc.cell? ⟨gb162, 1, none⟩ = some (.int .i64 t167) := (blk_cell BK162.out 1).trans rfl
                                    have hfz137_0 := blk_frozen BK162.out 0
                                    have hfz137_1 := blk_frozen BK162.out 1
                                    go_wp2_with (first | ((with_reducible refine gate_callee (f := 10) rfl ?_); refine goesL_ (some 94) rfl rfl Tryd.func10 (by kernel_rfl) rfl #[.agg #[.int .i64 t166, .int .i64 t167], .int .i64 ((rd_T26 l0 x8_1).f3), .int .u64 ((rd_T26 l0 x8_1).f0), .bool true, .int .i64 (wrap64 ((wrap64 (Int.tmod a1 20)) + 1))] rfl (by (try simp only [List.map_toArray, List.map_cons, List.map_nil]); first | done | rfl | (simp only [List.length_drop, List.length_take]; rfl)) ?_; (with_reducible refine (turn_Turn_Pick.calls t166 t167 ((rd_T26 l0 x8_1).f3) ((rd_T26 l0 x8_1).f0) true (wrap64 ((wrap64 (Int.tmod a1 20)) + 1)) t172 t173 false _ A64.out).mono ?_); rintro e w138 ⟨rfl, hb⟩; refine ⟨_, rfl, ?_⟩; have n0_ := Aside0.mk (blk_below (g := gb162) (o := .cells #[.int .i64 t166, .int .i64 t167] 23 (0, 0)) (by (with_reducible repeat (first | refine blk_drewN ?_ _ | refine blk_drew ?_ | refine blk_alloc ?_ _)); exact BK162.out) hb); have n1_ := Aside0.mk (blk_below (g := gb164) (o := .cells #[.int .u64 ((rd_T26 l0 x8_1).f0), .bool ((rd_T26 l0 x8_1).f1), .bool ((rd_T26 l0 x8_1).f2), .int .i64 ((rd_T26 l0 x8_1).f3)] 26 (0, 0)) (by (with_reducible repeat (first | refine blk_drewN ?_ _ | refine blk_drew ?_ | refine blk_alloc ?_ _)); exact BK164.out) hb); have n2_ := Aside0.mk (blk_below (g := gb165) (o := .cells #[.int .i64 x163000_1, .int .i64 x163001_1] 23 (0, 0)) (by (with_reducible repeat (first | refine blk_drewN ?_ _ | refine blk_drew ?_ | refine blk_alloc ?_ _)); exact BK165.out) hb); have n3_ := Aside0.mk (below_step (by repeat (first | (with_reducible first | exact HB.out | apply below_alloc | apply pw_below_drewN | apply below_drew1 | refine below_set ?_ GE162.out | refine below_set ?_ GE164.out | refine below_set ?_ GE165.out) | exact HB.out)) hb); clear BK162; clear BK164; clear BK165; clear HB; have BK162 := n0_; have BK164 := n1_; have BK165 := n2_; have HB := n3_; clear n0_ n1_ n2_ n3_; (try clear hb); (try clear hb2); (try clear hk); (try clear hi)) | ((with_reducible refine gate_dst (N := 11) rfl ?_); refine box_event ?hg (N := 11) ?hd (cs := #[.int .i64 0, .int .i64 0]) (t := 23) ?hr ?_; (case hd => rfl); (case hg => rfl); (case hr => first | (go_simp; done) | (go_simp; rfl)); intro gb175 hg w139 hbox hb; have n0_ := Aside0.mk (blk_below (g := gb162) (o := .cells #[.int .i64 t166, .int .i64 t167] 23 (0, 0)) (by (with_reducible repeat (first | refine blk_drewN ?_ _ | refine blk_drew ?_ | refine blk_alloc ?_ _)); exact BK162.out) hb); have n1_ := Aside0.mk (blk_below (g := gb164) (o := .cells #[.int .u64 ((rd_T26 l0 x8_1).f0), .bool ((rd_T26 l0 x8_1).f1), .bool ((rd_T26 l0 x8_1).f2), .int .i64 ((rd_T26 l0 x8_1).f3)] 26 (0, 0)) (by (with_reducible repeat (first | refine blk_drewN ?_ _ | refine blk_drew ?_ | refine blk_alloc ?_ _)); exact BK164.out) hb); have n2_ := Aside0.mk (blk_below (g := gb165) (o := .cells #[.int .i64 x163000_1, .int .i64 x163001_1] 23 (0, 0)) (by (with_reducible repeat (first | refine blk_drewN ?_ _ | refine blk_drew ?_ | refine blk_alloc ?_ _)); exact BK165.out) hb); have n3_ := Aside0.mk (below_step (by repeat (first | (with_reducible first | exact HB.out | apply below_alloc | apply pw_below_drewN | apply below_drew1 | refine below_set ?_ GE162.out | refine below_set ?_ GE164.out | refine below_set ?_ GE165.out) | exact HB.out)) hb); have n4_ := Aside0.mk (hbox); have n5_ := Aside0.mk ((by rw [hg]; exact (below_size (by repeat (first | (with_reducible first | exact HB.out | apply below_alloc | apply pw_below_drewN | apply below_drew1 | refine below_set ?_ GE162.out | refine below_set ?_ GE164.out | refine below_set ?_ GE165.out) | exact HB.out))) : w.heap.size ≤ gb175)); have n6_ := Aside0.mk ((by rw [hg]; exact (below_size (by repeat (first | (with_reducible first | exact HB.out | apply below_alloc | apply pw_below_drewN | apply below_drew1 | refine below_set ?_ GE162.out | refine below_set ?_ GE164.out | refine below_set ?_ GE165.out) | exact HB.out))) : w.heap.size ≤ gb175)); have n7_ := Aside0.mk ((by rw [hg]; exact Nat.ne_of_lt (blk_lt (g := gb162) (o := .cells #[.int .i64 t166, .int .i64 t167] 23 (0, 0)) (by (with_reducible repeat (first | refine blk_drewN ?_ _ | refine blk_drew ?_ | refine blk_alloc ?_ _)); exact BK162.out)) : gb162 ≠ gb175)); have n8_ := Aside0.mk ((by rw [hg]; exact Nat.ne_of_gt (blk_lt (g := gb162) (o := .cells #[.int .i64 t166, .int .i64 t167] 23 (0, 0)) (by (with_reducible repeat (first | refine blk_drewN ?_ _ | refine blk_drew ?_ | refine blk_alloc ?_ _)); exact BK162.out)) : gb175 ≠ gb162)); have n9_ := Aside0.mk ((by rw [hg]; exact Nat.ne_of_lt (blk_lt (g := gb164) (o := .cells #[.int .u64 ((rd_T26 l0 x8_1).f0), .bool ((rd_T26 l0 x8_1).f1), .bool ((rd_T26 l0 x8_1).f2), .int .i64 ((rd_T26 l0 x8_1).f3)] 26 (0, 0)) (by (with_reducible repeat (first | refine blk_drewN ?_ _ | refine blk_drew ?_ | refine blk_alloc ?_ _)); exact BK164.out)) : gb164 ≠ gb175)); have n10_ := Aside0.mk ((by rw [hg]; exact Nat.ne_of_gt (blk_lt (g := gb164) (o := .cells #[.int .u64 ((rd_T26 l0 x8_1).f0), .bool ((rd_T26 l0 x8_1).f1), .bool ((rd_T26 l0 x8_1).f2), .int .i64 ((rd_T26 l0 x8_1).f3)] 26 (0, 0)) (by (with_reducible repeat (first | refine blk_drewN ?_ _ | refine blk_drew ?_ | refine blk_alloc ?_ _)); exact BK164.out)) : gb175 ≠ gb164)); have n11_ := Aside0.mk ((by rw [hg]; exact Nat.ne_of_lt (blk_lt (g := gb165) (o := .cells #[.int .i64 x163000_1, .int .i64 x163001_1] 23 (0, 0)) (by (with_reducible repeat (first | refine blk_drewN ?_ _ | refine blk_drew ?_ | refine blk_alloc ?_ _)); exact BK165.out)) : gb165 ≠ gb175)); have n12_ := Aside0.mk ((by rw [hg]; exact Nat.ne_of_gt (blk_lt (g := gb165) (o := .cells #[.int .i64 x163000_1, .int .i64 x163001_1] 23 (0, 0)) (by (with_reducible repeat (first | refine blk_drewN ?_ _ | refine blk_drew ?_ | refine blk_alloc ?_ _)); exact BK165.out)) : gb175 ≠ gb165)); clear BK162; clear BK164; clear BK165; clear HB; have BK162 := n0_; have BK164 := n1_; have BK165 := n2_; have HB := n3_; have BK175 := n4_; have GW175 := n5_; have GE175 := n6_; have NB162_175 := n7_; have NB175_162 := n8_; have NB164_175 := n9_; have NB175_164 := n10_; have NB165_175 := n11_; have NB175_165 := n12_; clear n0_ n1_ n2_ n3_ n4_ n5_ n6_ n7_ n8_ n9_ n10_ n11_ n12_; clear hb hbox hg; have hnb140 := NB175_162.out; have hnc140 := NB162_175.out; have hnb141 := NB175_164.out; have hnc141 := NB164_175.out; have hnb142 := NB175_165.out; have hnc142 := NB165_175.out; have hcz143_0 : w139.cell? ⟨gb175, 0, none⟩ = some (.int .i64 0) := (blk_cell BK175.out 0).trans rfl; have hcz143_1 : w139.cell? ⟨gb175, 1, none⟩ = some (.int .i64 0) := (blk_cell BK175.out 1).trans rfl; have hfz143_0 := blk_frozen BK175.out 0; have hfz143_1 := blk_frozen BK175.out 1; have hcz144_0 : w139.cell? ⟨gb164, 0, none⟩ = some (.int .u64 ((rd_T26 l0 x8_1).f0)) := (blk_cell BK164.out 0).trans rfl; have hcz144_1 : w139.cell? ⟨gb164, 1, none⟩ = some (.bool ((rd_T26 l0 x8_1).f1)) := (blk_cell BK164.out 1).trans rfl; have hcz144_2 : w139.cell? ⟨gb164, 2, none⟩ = some (.bool ((rd_T26 l0 x8_1).f2)) := (blk_cell BK164.out 2).trans rfl; have hcz144_3 : w139.cell? ⟨gb164, 3, none⟩ = some (.int .i64 ((rd_T26 l0 x8_1).f3)) := (blk_cell BK164.out 3).trans rfl; have hfz144_0 := blk_frozen BK164.out 0; have hfz144_1 := blk_frozen BK164.out 1; have hfz144_2 := blk_frozen BK164.out 2; have hfz144_3 := blk_frozen BK164.out 3; have hcz145_0 : w139.cell? ⟨gb162, 0, none⟩ = some (.int .i64 t166) := (blk_cell BK162.out 0).trans rfl; have hcz145_1 : w139.cell? ⟨gb162, 1, none⟩ = some (.int .i64 t167) := (blk_cell BK162.out 1).trans rfl; have hfz145_0 := blk_frozen BK162.out 0; have hfz145_1 := blk_frozen BK162.out 1))
                                    go_roundg kj43
                                    case measure => have := HK1.out; have := HJ14.out; have := HJ43.out; omega
                                    case rel => exact ⟨(wrap64 (x8_1 + 1)), (t172), (t173), (by first | rfl | (simp; done) | (simp [*]; done)), H', ⟨by have := HK1.out; have := HJ14.out; have := HJ43.out; omega⟩, ⟨by (with_reducible repeat (first | refine blk_drewN ?_ _ | refine blk_drew ?_ | refine blk_alloc ?_ _)); refine blk_put (cs := #[.int .i64 t172, .int .i64 t167]) ?_ 1 _ rfl; (with_reducible repeat (first | refine blk_drewN ?_ _ | refine blk_drew ?_ | refine blk_alloc ?_ _)); refine blk_put (cs := #[.int .i64 t166, .int .i64 t167]) ?_ 0 _ rfl; (with_reducible repeat (first | refine blk_drewN ?_ _ | refine blk_drew ?_ | refine blk_alloc ?_ _)); refine blk_far ?_ NB162_175.out _; (with_reducible repeat (first | refine blk_drewN ?_ _ | refine blk_drew ?_ | refine blk_alloc ?_ _)); refine blk_far ?_ NB162_175.out _; (with_reducible repeat (first | refine blk_drewN ?_ _ | refine blk_drew ?_ | refine blk_alloc ?_ _)); exact BK162.out⟩, ⟨by repeat (first | (with_reducible first | exact HB.out | apply below_alloc | apply pw_below_drewN | apply below_drew1 | refine below_set ?_ GE162.out | refine below_set ?_ GE164.out | refine below_set ?_ GE165.out | refine below_set ?_ GE175.out) | exact HB.out)⟩⟩
                            · rw [if_neg c65] at H
                              have c65b0 : ((rd_T26 l0 x8_1).f1) = false := by simpa using c65
                              have n0_ : Aside0 (turn_Turn_Pick.f t166 t167 ((rd_T26 l0 x8_1).f3) ((rd_T26 l0 x8_1).f0) false (wrap64 ((wrap64 (Int.tmod a1 20)) + 1)) = some (t172, t173, t174)) := Aside0.mk (by rw [← c65b0]; exact A64.out)
                              clear A64
                              have A64 := n0_
                              clear n0_
                              clear c65
                              replace H := Option.bind_eq_some_iff.mp H
                              obtain ⟨t176, A1460, H⟩ := H
                              replace H : (if (t174 != t176) = true then (some false) else (if t174 = true then (if t172 = ((rd_T26 l0 x8_1).f3) then (if t173 = (wrap64 ((wrap64 (Int.tmod a1 20)) + 1)) then (paternosterlaw20_TurnReady.l0 kj43 l0 (wrap64 ((wrap64 (Int.tmod a1 20)) + 1)) (wrap64 (x8_1 + 1)) t172 t173) else (some false)) else (some false)) else (if (!(t172 == t166) || (!(t173 == t167))) = true then (some false) else (paternosterlaw20_TurnReady.l0 kj43 l0 (wrap64 ((wrap64 (Int.tmod a1 20)) + 1)) (wrap64 (x8_1 + 1)) t172 t173)))) = some r := H
                              have A146 := Aside0.mk A1460
                              clear A1460
                              by_cases c147 : (t174 != t176) = true
                              · rw [if_pos c147] at H
                                have c147b0 : (t174 != t176) = true := c147
                                (try (have c147b1 : decide (t174 = t176) = false := by simpa using c147))
                                (try (have c147b2 : (t174 == t176) = false := by simpa using c147))
                                (try (have c147b3 : ¬ (t174 = t176) := by simpa using c147))
                                clear c147
                                obtain rfl := Option.some.inj H
                                have hnb148 := NB164_162.out
                                have hnc148 := NB162_164.out
                                have hnb149 := NB164_165.out
                                have hnc149 := NB165_164.out
                                have hcz150_0 : wc.cell? ⟨gb164, 0, none⟩ = some (.int .u64 ((rd_T26 l0 x8_1).f0)) := (blk_cell BK164.out 0).trans rfl
                                have hcz150_1 : wc.cell? ⟨gb164, 1, none⟩ = some (.bool ((rd_T26 l0 x8_1).f1)) := (blk_cell BK164.out 1).trans rfl
                                have hcz150_2 : wc.cell? ⟨gb164, 2, none⟩ = some (.bool ((rd_T26 l0 x8_1).f2)) := (blk_cell BK164.out 2).trans rfl
                                have hcz150_3 : wc.cell? ⟨gb164, 3, none⟩ = some (.int .i64 ((rd_T26 l0 x8_1).f3)) := (blk_cell BK164.out 3).trans rfl
                                have hfz150_0 := blk_frozen BK164.out 0
                                have hfz150_1 := blk_frozen BK164.out 1
                                have hfz150_2 := blk_frozen BK164.out 2
                                have hfz150_3 := blk_frozen BK164.out 3
                                have hnb151 := NB162_165.out
                                have hnc151 := NB165_162.out
                                have hcz152_0 : wc.cell? ⟨gb162, 0, none⟩ = some (.int .i64 t166) := (blk_cell BK162.out 0).trans rfl
                                have hcz152_1 : wc.cell? ⟨gb162, 1, none⟩ = some (.int .i64 t167) := (blk_cell BK162.out 1).trans rfl
                                have hfz152_0 := blk_frozen BK162.out 0
                                have hfz152_1 := blk_frozen BK162.out 1
                                go_wp2_with (first | ((with_reducible refine gate_callee (f := 10) rfl ?_); refine goesL_ (some 94) rfl rfl Tryd.func10 (by kernel_rfl) rfl #[.agg #[.int .i64 t166, .int .i64 t167], .int .i64 ((rd_T26 l0 x8_1).f3), .int .u64 ((rd_T26 l0 x8_1).f0), .bool false, .int .i64 (wrap64 ((wrap64 (Int.tmod a1 20)) + 1))] rfl (by (try simp only [List.map_toArray, List.map_cons, List.map_nil]); first | done | rfl | (simp only [List.length_drop, List.length_take]; rfl)) ?_; (with_reducible refine (turn_Turn_Pick.calls t166 t167 ((rd_T26 l0 x8_1).f3) ((rd_T26 l0 x8_1).f0) false (wrap64 ((wrap64 (Int.tmod a1 20)) + 1)) t172 t173 t174 _ A64.out).mono ?_); rintro e w153 ⟨rfl, hb⟩; refine ⟨_, rfl, ?_⟩; have n0_ := Aside0.mk (blk_below (g := gb162) (o := .cells #[.int .i64 t166, .int .i64 t167] 23 (0, 0)) (by (with_reducible repeat (first | refine blk_drewN ?_ _ | refine blk_drew ?_ | refine blk_alloc ?_ _)); exact BK162.out) hb); have n1_ := Aside0.mk (blk_below (g := gb164) (o := .cells #[.int .u64 ((rd_T26 l0 x8_1).f0), .bool ((rd_T26 l0 x8_1).f1), .bool ((rd_T26 l0 x8_1).f2), .int .i64 ((rd_T26 l0 x8_1).f3)] 26 (0, 0)) (by (with_reducible repeat (first | refine blk_drewN ?_ _ | refine blk_drew ?_ | refine blk_alloc ?_ _)); exact BK164.out) hb); have n2_ := Aside0.mk (blk_below (g := gb165) (o := .cells #[.int .i64 x163000_1, .int .i64 x163001_1] 23 (0, 0)) (by (with_reducible repeat (first | refine blk_drewN ?_ _ | refine blk_drew ?_ | refine blk_alloc ?_ _)); exact BK165.out) hb); have n3_ := Aside0.mk (below_step (by repeat (first | (with_reducible first | exact HB.out | apply below_alloc | apply pw_below_drewN | apply below_drew1 | refine below_set ?_ GE162.out | refine below_set ?_ GE164.out | refine below_set ?_ GE165.out) | exact HB.out)) hb); clear BK162; clear BK164; clear BK165; clear HB; have BK162 := n0_; have BK164 := n1_; have BK165 := n2_; have HB := n3_; clear n0_ n1_ n2_ n3_; (try clear hb); (try clear hb2); (try clear hk); (try clear hi)) | ((with_reducible refine gate_dst (N := 11) rfl ?_); refine box_event ?hg (N := 11) ?hd (cs := #[.int .i64 0, .int .i64 0]) (t := 23) ?hr ?_; (case hd => rfl); (case hg => rfl); (case hr => first | (go_simp; done) | (go_simp; rfl)); intro gb175 hg w154 hbox hb; have n0_ := Aside0.mk (blk_below (g := gb162) (o := .cells #[.int .i64 t166, .int .i64 t167] 23 (0, 0)) (by (with_reducible repeat (first | refine blk_drewN ?_ _ | refine blk_drew ?_ | refine blk_alloc ?_ _)); exact BK162.out) hb); have n1_ := Aside0.mk (blk_below (g := gb164) (o := .cells #[.int .u64 ((rd_T26 l0 x8_1).f0), .bool ((rd_T26 l0 x8_1).f1), .bool ((rd_T26 l0 x8_1).f2), .int .i64 ((rd_T26 l0 x8_1).f3)] 26 (0, 0)) (by (with_reducible repeat (first | refine blk_drewN ?_ _ | refine blk_drew ?_ | refine blk_alloc ?_ _)); exact BK164.out) hb); have n2_ := Aside0.mk (blk_below (g := gb165) (o := .cells #[.int .i64 x163000_1, .int .i64 x163001_1] 23 (0, 0)) (by (with_reducible repeat (first | refine blk_drewN ?_ _ | refine blk_drew ?_ | refine blk_alloc ?_ _)); exact BK165.out) hb); have n3_ := Aside0.mk (below_step (by repeat (first | (with_reducible first | exact HB.out | apply below_alloc | apply pw_below_drewN | apply below_drew1 | refine below_set ?_ GE162.out | refine below_set ?_ GE164.out | refine below_set ?_ GE165.out) | exact HB.out)) hb); have n4_ := Aside0.mk (hbox); have n5_ := Aside0.mk ((by rw [hg]; exact (below_size (by repeat (first | (with_reducible first | exact HB.out | apply below_alloc | apply pw_below_drewN | apply below_drew1 | refine below_set ?_ GE162.out | refine below_set ?_ GE164.out | refine below_set ?_ GE165.out) | exact HB.out))) : w.heap.size ≤ gb175)); have n6_ := Aside0.mk ((by rw [hg]; exact (below_size (by repeat (first | (with_reducible first | exact HB.out | apply below_alloc | apply pw_below_drewN | apply below_drew1 | refine below_set ?_ GE162.out | refine below_set ?_ GE164.out | refine below_set ?_ GE165.out) | exact HB.out))) : w.heap.size ≤ gb175)); have n7_ := Aside0.mk ((by rw [hg]; exact Nat.ne_of_lt (blk_lt (g := gb162) (o := .cells #[.int .i64 t166, .int .i64 t167] 23 (0, 0)) (by (with_reducible repeat (first | refine blk_drewN ?_ _ | refine blk_drew ?_ | refine blk_alloc ?_ _)); exact BK162.out)) : gb162 ≠ gb175)); have n8_ := Aside0.mk ((by rw [hg]; exact Nat.ne_of_gt (blk_lt (g := gb162) (o := .cells #[.int .i64 t166, .int .i64 t167] 23 (0, 0)) (by (with_reducible repeat (first | refine blk_drewN ?_ _ | refine blk_drew ?_ | refine blk_alloc ?_ _)); exact BK162.out)) : gb175 ≠ gb162)); have n9_ := Aside0.mk ((by rw [hg]; exact Nat.ne_of_lt (blk_lt (g := gb164) (o := .cells #[.int .u64 ((rd_T26 l0 x8_1).f0), .bool ((rd_T26 l0 x8_1).f1), .bool ((rd_T26 l0 x8_1).f2), .int .i64 ((rd_T26 l0 x8_1).f3)] 26 (0, 0)) (by (with_reducible repeat (first | refine blk_drewN ?_ _ | refine blk_drew ?_ | refine blk_alloc ?_ _)); exact BK164.out)) : gb164 ≠ gb175)); have n10_ := Aside0.mk ((by rw [hg]; exact Nat.ne_of_gt (blk_lt (g := gb164) (o := .cells #[.int .u64 ((rd_T26 l0 x8_1).f0), .bool ((rd_T26 l0 x8_1).f1), .bool ((rd_T26 l0 x8_1).f2), .int .i64 ((rd_T26 l0 x8_1).f3)] 26 (0, 0)) (by (with_reducible repeat (first | refine blk_drewN ?_ _ | refine blk_drew ?_ | refine blk_alloc ?_ _)); exact BK164.out)) : gb175 ≠ gb164)); have n11_ := Aside0.mk ((by rw [hg]; exact Nat.ne_of_lt (blk_lt (g := gb165) (o := .cells #[.int .i64 x163000_1, .int .i64 x163001_1] 23 (0, 0)) (by (with_reducible repeat (first | refine blk_drewN ?_ _ | refine blk_drew ?_ | refine blk_alloc ?_ _)); exact BK165.out)) : gb165 ≠ gb175)); have n12_ := Aside0.mk ((by rw [hg]; exact Nat.ne_of_gt (blk_lt (g := gb165) (o := .cells #[.int .i64 x163000_1, .int .i64 x163001_1] 23 (0, 0)) (by (with_reducible repeat (first | refine blk_drewN ?_ _ | refine blk_drew ?_ | refine blk_alloc ?_ _)); exact BK165.out)) : gb175 ≠ gb165)); clear BK162; clear BK164; clear BK165; clear HB; have BK162 := n0_; have BK164 := n1_; have BK165 := n2_; have HB := n3_; have BK175 := n4_; have GW175 := n5_; have GE175 := n6_; have NB162_175 := n7_; have NB175_162 := n8_; have NB164_175 := n9_; have NB175_164 := n10_; have NB165_175 := n11_; have NB175_165 := n12_; clear n0_ n1_ n2_ n3_ n4_ n5_ n6_ n7_ n8_ n9_ n10_ n11_ n12_; clear hb hbox hg; have hnb155 := NB175_162.out; have hnc155 := NB162_175.out; have hnb156 := NB175_164.out; have hnc156 := NB164_175.out; have hnb157 := NB175_165.out; have hnc157 := NB165_175.out; have hcz158_0 : w154.cell? ⟨gb175, 0, none⟩ = some (.int .i64 0) := (blk_cell BK175.out 0).trans rfl; have hcz158_1 : w154.cell? ⟨gb175, 1, none⟩ = some (.int .i64 0) := (blk_cell BK175.out 1).trans rfl; have hfz158_0 := blk_frozen BK175.out 0; have hfz158_1 := blk_frozen BK175.out 1; have hcz159_0 : w154.cell? ⟨gb164, 0, none⟩ = some (.int .u64 ((rd_T26 l0 x8_1).f0)) := (blk_cell BK164.out 0).trans rfl; have hcz159_1 : w154.cell? ⟨gb164, 1, none⟩ = some (.bool ((rd_T26 l0 x8_1).f1)) := (blk_cell BK164.out 1).trans rfl; have hcz159_2 : w154.cell? ⟨gb164, 2, none⟩ = some (.bool ((rd_T26 l0 x8_1).f2)) := (blk_cell BK164.out 2).trans rfl; have hcz159_3 : w154.cell? ⟨gb164, 3, none⟩ = some (.int .i64 ((rd_T26 l0 x8_1).f3)) := (blk_cell BK164.out 3).trans rfl; have hfz159_0 := blk_frozen BK164.out 0; have hfz159_1 := blk_frozen BK164.out 1; have hfz159_2 := blk_frozen BK164.out 2; have hfz159_3 := blk_frozen BK164.out 3) | (go_at_call 13; (with_reducible refine (order_Has.calls ((rd_T26 l0 x8_1).f0) ((rd_T26 l0 x8_1).f3) t176 _ A146.out).mono ?_); rintro e w' ⟨rfl, ⟨nd, rfl⟩⟩))
                                go_ret
                                exact ⟨by first | rfl | (simp [errW_none, errW_some] <;> rfl) | (simp [*, errW_none, errW_some] <;> rfl), by repeat (first | (with_reducible first | exact HB.out | apply below_alloc | apply pw_below_drewN | apply below_drew1 | refine below_set ?_ GE162.out | refine below_set ?_ GE164.out | refine below_set ?_ GE165.out | refine below_set ?_ GE175.out) | exact HB.out)⟩
                              · rw [if_neg c147] at H
                                have c147b0 : (t174 != t176) = false := by simpa using c147
                                (try (have c147b1 : decide (t174 = t176) = true := by simpa using c147))
                                (try (have c147b2 : (t174 == t176) = true := by simpa using c147))
                                clear c147
                                by_cases c160 : t174 = true
                                · subst c160
                                  have H1 : (if t172 = ((rd_T26 l0 x8_1).f3) then (if t173 = (wrap64 ((wrap64 (Int.tmod a1 20)) + 1)) then (paternosterlaw20_TurnReady.l0 kj43 l0 (wrap64 ((wrap64 (Int.tmod a1 20)) + 1)) (wrap64 (x8_1 + 1)) t172 t173) else (some false)) else (some false)) = some r := by rw [if_pos rfl] at H; exact H
                                  clear H
                                  have H := H1
                                  clear H1
                                  by_cases c161 : t172 = ((rd_T26 l0 x8_1).f3)
                                  · rw [if_pos c161] at H
                                    have c161b0 : (t172 == ((rd_T26 l0 x8_1).f3)) = true := beq_iff_eq.mpr c161
                                    have c161b1 : (t172 != ((rd_T26 l0 x8_1).f3)) = false := bne_eq_false_iff_eq.mpr c161
                                    clear c161
                                    by_cases c162 : t173 = (wrap64 ((wrap64 (Int.tmod a1 20)) + 1))
                                    · rw [if_pos c162] at H
                                      have c162b0 : (t173 == (wrap64 ((wrap64 (Int.tmod a1 20)) + 1))) = true := beq_iff_eq.mpr c162
                                      have c162b1 : (t173 != (wrap64 ((wrap64 (Int.tmod a1 20)) + 1))) = false := bne_eq_false_iff_eq.mpr c162
                                      clear c162
                                      have H' := Aside0.mk H
                                      clear H
                                      have hnb163 := NB164_162.out
                                      have hnc163 := NB162_164.out
                                      have hnb164 := NB164_165.out
                                      have hnc164 := NB165_164.out
                                      have hcz165_0 : wc.cell? ⟨gb164, 0, none⟩ = some (.int .u64 ((rd_T26 l0 x8_1).f0)) := (blk_cell BK164.out 0).trans rfl
                                      have hcz165_1 : wc.cell? ⟨gb164, 1, none⟩ = some (.bool ((rd_T26 l0 x8_1).f1)) := (blk_cell BK164.out 1).trans rfl
                                      have hcz165_2 : wc.cell? ⟨gb164, 2, none⟩ = some (.bool ((rd_T26 l0 x8_1).f2)) := (blk_cell BK164.out 2).trans rfl
                                      have hcz165_3 : wc.cell? ⟨gb164, 3, none⟩ = some (.int .i64 ((rd_T26 l0 x8_1).f3)) := (blk_cell BK164.out 3).trans rfl
                                      have hfz165_0 := blk_frozen BK164.out 0
                                      have hfz165_1 := blk_frozen BK164.out 1
                                      have hfz165_2 := blk_frozen BK164.out 2
                                      have hfz165_3 := blk_frozen BK164.out 3
                                      have hnb166 := NB162_165.out
                                      have hnc166 := NB165_162.out
                                      have hcz167_0 : wc.cell? ⟨gb162, 0, none⟩ = some (.int .i64 t166) := (blk_cell BK162.out 0).trans rfl
                                      have hcz167_1 : wc.cell? ⟨gb162, 1, none⟩ = some (.int .i64 t167) := (blk_cell BK162.out 1).trans rfl
                                      have hfz167_0 := blk_frozen BK162.out 0
                                      have hfz167_1 := blk_frozen BK162.out 1
                                      go_wp2_with (first | ((with_reducible refine gate_callee (f := 10) rfl ?_); refine goesL_ (some 94) rfl rfl Tryd.func10 (by kernel_rfl) rfl #[.agg #[.int .i64 t166, .int .i64 t167], .int .i64 ((rd_T26 l0 x8_1).f3), .int .u64 ((rd_T26 l0 x8_1).f0), .bool false, .int .i64 (wrap64 ((wrap64 (Int.tmod a1 20)) + 1))] rfl (by (try simp only [List.map_toArray, List.map_cons, List.map_nil]); first | done | rfl | (simp only [List.length_drop, List.length_take]; rfl)) ?_; (with_reducible refine (turn_Turn_Pick.calls t166 t167 ((rd_T26 l0 x8_1).f3) ((rd_T26 l0 x8_1).f0) false (wrap64 ((wrap64 (Int.tmod a1 20)) + 1)) t172 t173 true _ A64.out).mono ?_); rintro e w168 ⟨rfl, hb⟩; refine ⟨_, rfl, ?_⟩; have n0_ := Aside0.mk (blk_below (g := gb162) (o := .cells #[.int .i64 t166, .int .i64 t167] 23 (0, 0)) (by (with_reducible repeat (first | refine blk_drewN ?_ _ | refine blk_drew ?_ | refine blk_alloc ?_ _)); exact BK162.out) hb); have n1_ := Aside0.mk (blk_below (g := gb164) (o := .cells #[.int .u64 ((rd_T26 l0 x8_1).f0), .bool ((rd_T26 l0 x8_1).f1), .bool ((rd_T26 l0 x8_1).f2), .int .i64 ((rd_T26 l0 x8_1).f3)] 26 (0, 0)) (by (with_reducible repeat (first | refine blk_drewN ?_ _ | refine blk_drew ?_ | refine blk_alloc ?_ _)); exact BK164.out) hb); have n2_ := Aside0.mk (blk_below (g := gb165) (o := .cells #[.int .i64 x163000_1, .int .i64 x163001_1] 23 (0, 0)) (by (with_reducible repeat (first | refine blk_drewN ?_ _ | refine blk_drew ?_ | refine blk_alloc ?_ _)); exact BK165.out) hb); have n3_ := Aside0.mk (below_step (by repeat (first | (with_reducible first | exact HB.out | apply below_alloc | apply pw_below_drewN | apply below_drew1 | refine below_set ?_ GE162.out | refine below_set ?_ GE164.out | refine below_set ?_ GE165.out) | exact HB.out)) hb); clear BK162; clear BK164; clear BK165; clear HB; have BK162 := n0_; have BK164 := n1_; have BK165 := n2_; have HB := n3_; clear n0_ n1_ n2_ n3_; (try clear hb); (try clear hb2); (try clear hk); (try clear hi)) | ((with_reducible refine gate_dst (N := 11) rfl ?_); refine box_event ?hg (N := 11) ?hd (cs := #[.int .i64 0, .int .i64 0]) (t := 23) ?hr ?_; (case hd => rfl); (case hg => rfl); (case hr => first | (go_simp; done) | (go_simp; rfl)); intro gb175 hg w169 hbox hb; have n0_ := Aside0.mk (blk_below (g := gb162) (o := .cells #[.int .i64 t166, .int .i64 t167] 23 (0, 0)) (by (with_reducible repeat (first | refine blk_drewN ?_ _ | refine blk_drew ?_ | refine blk_alloc ?_ _)); exact BK162.out) hb); have n1_ := Aside0.mk (blk_below (g := gb164) (o := .cells #[.int .u64 ((rd_T26 l0 x8_1).f0), .bool ((rd_T26 l0 x8_1).f1), .bool ((rd_T26 l0 x8_1).f2), .int .i64 ((rd_T26 l0 x8_1).f3)] 26 (0, 0)) (by (with_reducible repeat (first | refine blk_drewN ?_ _ | refine blk_drew ?_ | refine blk_alloc ?_ _)); exact BK164.out) hb); have n2_ := Aside0.mk (blk_below (g := gb165) (o := .cells #[.int .i64 x163000_1, .int .i64 x163001_1] 23 (0, 0)) (by (with_reducible repeat (first | refine blk_drewN ?_ _ | refine blk_drew ?_ | refine blk_alloc ?_ _)); exact BK165.out) hb); have n3_ := Aside0.mk (below_step (by repeat (first | (with_reducible first | exact HB.out | apply below_alloc | apply pw_below_drewN | apply below_drew1 | refine below_set ?_ GE162.out | refine below_set ?_ GE164.out | refine below_set ?_ GE165.out) | exact HB.out)) hb); have n4_ := Aside0.mk (hbox); have n5_ := Aside0.mk ((by rw [hg]; exact (below_size (by repeat (first | (with_reducible first | exact HB.out | apply below_alloc | apply pw_below_drewN | apply below_drew1 | refine below_set ?_ GE162.out | refine below_set ?_ GE164.out | refine below_set ?_ GE165.out) | exact HB.out))) : w.heap.size ≤ gb175)); have n6_ := Aside0.mk ((by rw [hg]; exact (below_size (by repeat (first | (with_reducible first | exact HB.out | apply below_alloc | apply pw_below_drewN | apply below_drew1 | refine below_set ?_ GE162.out | refine below_set ?_ GE164.out | refine below_set ?_ GE165.out) | exact HB.out))) : w.heap.size ≤ gb175)); have n7_ := Aside0.mk ((by rw [hg]; exact Nat.ne_of_lt (blk_lt (g := gb162) (o := .cells #[.int .i64 t166, .int .i64 t167] 23 (0, 0)) (by (with_reducible repeat (first | refine blk_drewN ?_ _ | refine blk_drew ?_ | refine blk_alloc ?_ _)); exact BK162.out)) : gb162 ≠ gb175)); have n8_ := Aside0.mk ((by rw [hg]; exact Nat.ne_of_gt (blk_lt (g := gb162) (o := .cells #[.int .i64 t166, .int .i64 t167] 23 (0, 0)) (by (with_reducible repeat (first | refine blk_drewN ?_ _ | refine blk_drew ?_ | refine blk_alloc ?_ _)); exact BK162.out)) : gb175 ≠ gb162)); have n9_ := Aside0.mk ((by rw [hg]; exact Nat.ne_of_lt (blk_lt (g := gb164) (o := .cells #[.int .u64 ((rd_T26 l0 x8_1).f0), .bool ((rd_T26 l0 x8_1).f1), .bool ((rd_T26 l0 x8_1).f2), .int .i64 ((rd_T26 l0 x8_1).f3)] 26 (0, 0)) (by (with_reducible repeat (first | refine blk_drewN ?_ _ | refine blk_drew ?_ | refine blk_alloc ?_ _)); exact BK164.out)) : gb164 ≠ gb175)); have n10_ := Aside0.mk ((by rw [hg]; exact Nat.ne_of_gt (blk_lt (g := gb164) (o := .cells #[.int .u64 ((rd_T26 l0 x8_1).f0), .bool ((rd_T26 l0 x8_1).f1), .bool ((rd_T26 l0 x8_1).f2), .int .i64 ((rd_T26 l0 x8_1).f3)] 26 (0, 0)) (by (with_reducible repeat (first | refine blk_drewN ?_ _ | refine blk_drew ?_ | refine blk_alloc ?_ _)); exact BK164.out)) : gb175 ≠ gb164)); have n11_ := Aside0.mk ((by rw [hg]; exact Nat.ne_of_lt (blk_lt (g := gb165) (o := .cells #[.int .i64 x163000_1, .int .i64 x163001_1] 23 (0, 0)) (by (with_reducible repeat (first | refine blk_drewN ?_ _ | refine blk_drew ?_ | refine blk_alloc ?_ _)); exact BK165.out)) : gb165 ≠ gb175)); have n12_ := Aside0.mk ((by rw [hg]; exact Nat.ne_of_gt (blk_lt (g := gb165) (o := .cells #[.int .i64 x163000_1, .int .i64 x163001_1] 23 (0, 0)) (by (with_reducible repeat (first | refine blk_drewN ?_ _ | refine blk_drew ?_ | refine blk_alloc ?_ _)); exact BK165.out)) : gb175 ≠ gb165)); clear BK162; clear BK164; clear BK165; clear HB; have BK162 := n0_; have BK164 := n1_; have BK165 := n2_; have HB := n3_; have BK175 := n4_; have GW175 := n5_; have GE175 := n6_; have NB162_175 := n7_; have NB175_162 := n8_; have NB164_175 := n9_; have NB175_164 := n10_; have NB165_175 := n11_; have NB175_165 := n12_; clear n0_ n1_ n2_ n3_ n4_ n5_ n6_ n7_ n8_ n9_ n10_ n11_ n12_; clear hb hbox hg; have hnb170 := NB175_162.out; have hnc170 := NB162_175.out; have hnb171 := NB175_164.out; have hnc171 := NB164_175.out; have hnb172 := NB175_165.out; have hnc172 := NB165_175.out; have hcz173_0 : w169.cell? ⟨gb175, 0, none⟩ = some (.int .i64 0) := (blk_cell BK175.out 0).trans rfl; have hcz173_1 : w169.cell? ⟨gb175, 1, none⟩ = some (.int .i64 0) := (blk_cell BK175.out 1).trans rfl; have hfz173_0 := blk_frozen BK175.out 0; have hfz173_1 := blk_frozen BK175.out 1; have hcz174_0 : w169.cell? ⟨gb164, 0, none⟩ = some (.int .u64 ((rd_T26 l0 x8_1).f0)) := (blk_cell BK164.out 0).trans rfl; have hcz174_1 : w169.cell? ⟨gb164, 1, none⟩ = some (.bool ((rd_T26 l0 x8_1).f1)) := (blk_cell BK164.out 1).trans rfl; have hcz174_2 : w169.cell? ⟨gb164, 2, none⟩ = some (.bool ((rd_T26 l0 x8_1).f2)) := (blk_cell BK164.out 2).trans rfl; have hcz174_3 : w169.cell? ⟨gb164, 3, none⟩ = some (.int .i64 ((rd_T26 l0 x8_1).f3)) := (blk_cell BK164.out 3).trans rfl; have hfz174_0 := blk_frozen BK164.out 0; have hfz174_1 := blk_frozen BK164.out 1; have hfz174_2 := blk_frozen BK164.out 2; have hfz174_3 := blk_frozen BK164.out 3) | (go_at_call 13; (with_reducible refine (order_Has.calls ((rd_T26 l0 x8_1).f0) ((rd_T26 l0 x8_1).f3) t176 _ A146.out).mono ?_); rintro e w' ⟨rfl, ⟨nd, rfl⟩⟩; have hcz175_0 : w169.cell? ⟨gb162, 0, none⟩ = some (.int .i64 t166) := (blk_cell BK162.out 0).trans rfl; have hcz175_1 : w169.cell? ⟨gb162, 1, none⟩ = some (.int .i64 t167) := (blk_cell BK162.out 1).trans rfl; have hfz175_0 := blk_frozen BK162.out 0; have hfz175_1 := blk_frozen BK162.out 1))
                                      go_roundg kj43
                                      case measure => have := HK1.out; have := HJ14.out; have := HJ43.out; omega
                                      case rel => exact ⟨(wrap64 (x8_1 + 1)), (t172), (t173), (by first | rfl | (simp; done) | (simp [*]; done)), H', ⟨by have := HK1.out; have := HJ14.out; have := HJ43.out; omega⟩, ⟨by (with_reducible repeat (first | refine blk_drewN ?_ _ | refine blk_drew ?_ | refine blk_alloc ?_ _)); refine blk_put (cs := #[.int .i64 t172, .int .i64 t167]) ?_ 1 _ rfl; (with_reducible repeat (first | refine blk_drewN ?_ _ | refine blk_drew ?_ | refine blk_alloc ?_ _)); refine blk_put (cs := #[.int .i64 t166, .int .i64 t167]) ?_ 0 _ rfl; (with_reducible repeat (first | refine blk_drewN ?_ _ | refine blk_drew ?_ | refine blk_alloc ?_ _)); refine blk_far ?_ NB162_175.out _; (with_reducible repeat (first | refine blk_drewN ?_ _ | refine blk_drew ?_ | refine blk_alloc ?_ _)); refine blk_far ?_ NB162_175.out _; (with_reducible repeat (first | refine blk_drewN ?_ _ | refine blk_drew ?_ | refine blk_alloc ?_ _)); exact BK162.out⟩, ⟨by repeat (first | (with_reducible first | exact HB.out | apply below_alloc | apply pw_below_drewN | apply below_drew1 | refine below_set ?_ GE162.out | refine below_set ?_ GE164.out | refine below_set ?_ GE165.out | refine below_set ?_ GE175.out) | exact HB.out)⟩⟩
                                    · rw [if_neg c162] at H
                                      have c162b0 : (t173 == (wrap64 ((wrap64 (Int.tmod a1 20)) + 1))) = false := beq_eq_false_iff_ne.mpr c162
                                      have c162b1 : (t173 != (wrap64 ((wrap64 (Int.tmod a1 20)) + 1))) = true := bne_iff_ne.mpr c162
                                      obtain rfl := Option.some.inj H
                                      have hnb176 := NB164_162.out
                                      have hnc176 := NB162_164.out
                                      have hnb177 := NB164_165.out
                                      have hnc177 := NB165_164.out
                                      have hcz178_0 : wc.cell? ⟨gb164, 0, none⟩ = some (.int .u64 ((rd_T26 l0 x8_1).f0)) := (blk_cell BK164.out 0).trans rfl
                                      have hcz178_1 : wc.cell? ⟨gb164, 1, none⟩ = some (.bool ((rd_T26 l0 x8_1).f1)) := (blk_cell BK164.out 1).trans rfl
                                      have hcz178_2 : wc.cell? ⟨gb164, 2, none⟩ = some (.bool ((rd_T26 l0 x8_1).f2)) := (blk_cell BK164.out 2).trans rfl
                                      have hcz178_3 : wc.cell? ⟨gb164, 3, none⟩ = some (.int .i64 ((rd_T26 l0 x8_1).f3)) := (blk_cell BK164.out 3).trans rfl
                                      have hfz178_0 := blk_frozen BK164.out 0
                                      have hfz178_1 := blk_frozen BK164.out 1
                                      have hfz178_2 := blk_frozen BK164.out 2
                                      have hfz178_3 := blk_frozen BK164.out 3
                                      have hnb179 := NB162_165.out
                                      have hnc179 := NB165_162.out
                                      have hcz180_0 : wc.cell? ⟨gb162, 0, none⟩ = some (.int .i64 t166) := (blk_cell BK162.out 0).trans rfl
                                      have hcz180_1 : wc.cell? ⟨gb162, 1, none⟩ = some (.int .i64 t167) := (blk_cell BK162.out 1).trans rfl
                                      have hfz180_0 := blk_frozen BK162.out 0
                                      have hfz180_1 := blk_frozen BK162.out 1
                                      go_wp2_with (first | ((with_reducible refine gate_callee (f := 10) rfl ?_); refine goesL_ (some 94) rfl rfl Tryd.func10 (by kernel_rfl) rfl #[.agg #[.int .i64 t166, .int .i64 t167], .int .i64 ((rd_T26 l0 x8_1).f3), .int .u64 ((rd_T26 l0 x8_1).f0), .bool false, .int .i64 (wrap64 ((wrap64 (Int.tmod a1 20)) + 1))] rfl (by (try simp only [List.map_toArray, List.map_cons, List.map_nil]); first | done | rfl | (simp only [List.length_drop, List.length_take]; rfl)) ?_; (with_reducible refine (turn_Turn_Pick.calls t166 t167 ((rd_T26 l0 x8_1).f3) ((rd_T26 l0 x8_1).f0) false (wrap64 ((wrap64 (Int.tmod a1 20)) + 1)) t172 t173 true _ A64.out).mono ?_); rintro e w181 ⟨rfl, hb⟩; refine ⟨_, rfl, ?_⟩; have n0_ := Aside0.mk (blk_below (g := gb162) (o := .cells #[.int .i64 t166, .int .i64 t167] 23 (0, 0)) (by (with_reducible repeat (first | refine blk_drewN ?_ _ | refine blk_drew ?_ | refine blk_alloc ?_ _)); exact BK162.out) hb); have n1_ := Aside0.mk (blk_below (g := gb164) (o := .cells #[.int .u64 ((rd_T26 l0 x8_1).f0), .bool ((rd_T26 l0 x8_1).f1), .bool ((rd_T26 l0 x8_1).f2), .int .i64 ((rd_T26 l0 x8_1).f3)] 26 (0, 0)) (by (with_reducible repeat (first | refine blk_drewN ?_ _ | refine blk_drew ?_ | refine blk_alloc ?_ _)); exact BK164.out) hb); have n2_ := Aside0.mk (blk_below (g := gb165) (o := .cells #[.int .i64 x163000_1, .int .i64 x163001_1] 23 (0, 0)) (by (with_reducible repeat (first | refine blk_drewN ?_ _ | refine blk_drew ?_ | refine blk_alloc ?_ _)); exact BK165.out) hb); have n3_ := Aside0.mk (below_step (by repeat (first | (with_reducible first | exact HB.out | apply below_alloc | apply pw_below_drewN | apply below_drew1 | refine below_set ?_ GE162.out | refine below_set ?_ GE164.out | refine below_set ?_ GE165.out) | exact HB.out)) hb); clear BK162; clear BK164; clear BK165; clear HB; have BK162 := n0_; have BK164 := n1_; have BK165 := n2_; have HB := n3_; clear n0_ n1_ n2_ n3_; (try clear hb); (try clear hb2); (try clear hk); (try clear hi)) | ((with_reducible refine gate_dst (N := 11) rfl ?_); refine box_event ?hg (N := 11) ?hd (cs := #[.int .i64 0, .int .i64 0]) (t := 23) ?hr ?_; (case hd => rfl); (case hg => rfl); (case hr => first | (go_simp; done) | (go_simp; rfl)); intro gb175 hg w182 hbox hb; have n0_ := Aside0.mk (blk_below (g := gb162) (o := .cells #[.int .i64 t166, .int .i64 t167] 23 (0, 0)) (by (with_reducible repeat (first | refine blk_drewN ?_ _ | refine blk_drew ?_ | refine blk_alloc ?_ _)); exact BK162.out) hb); have n1_ := Aside0.mk (blk_below (g := gb164) (o := .cells #[.int .u64 ((rd_T26 l0 x8_1).f0), .bool ((rd_T26 l0 x8_1).f1), .bool ((rd_T26 l0 x8_1).f2), .int .i64 ((rd_T26 l0 x8_1).f3)] 26 (0, 0)) (by (with_reducible repeat (first | refine blk_drewN ?_ _ | refine blk_drew ?_ | refine blk_alloc ?_ _)); exact BK164.out) hb); have n2_ := Aside0.mk (blk_below (g := gb165) (o := .cells #[.int .i64 x163000_1, .int .i64 x163001_1] 23 (0, 0)) (by (with_reducible repeat (first | refine blk_drewN ?_ _ | refine blk_drew ?_ | refine blk_alloc ?_ _)); exact BK165.out) hb); have n3_ := Aside0.mk (below_step (by repeat (first | (with_reducible first | exact HB.out | apply below_alloc | apply pw_below_drewN | apply below_drew1 | refine below_set ?_ GE162.out | refine below_set ?_ GE164.out | refine below_set ?_ GE165.out) | exact HB.out)) hb); have n4_ := Aside0.mk (hbox); have n5_ := Aside0.mk ((by rw [hg]; exact (below_size (by repeat (first | (with_reducible first | exact HB.out | apply below_alloc | apply pw_below_drewN | apply below_drew1 | refine below_set ?_ GE162.out | refine below_set ?_ GE164.out | refine below_set ?_ GE165.out) | exact HB.out))) : w.heap.size ≤ gb175)); have n6_ := Aside0.mk ((by rw [hg]; exact (below_size (by repeat (first | (with_reducible first | exact HB.out | apply below_alloc | apply pw_below_drewN | apply below_drew1 | refine below_set ?_ GE162.out | refine below_set ?_ GE164.out | refine below_set ?_ GE165.out) | exact HB.out))) : w.heap.size ≤ gb175)); have n7_ := Aside0.mk ((by rw [hg]; exact Nat.ne_of_lt (blk_lt (g := gb162) (o := .cells #[.int .i64 t166, .int .i64 t167] 23 (0, 0)) (by (with_reducible repeat (first | refine blk_drewN ?_ _ | refine blk_drew ?_ | refine blk_alloc ?_ _)); exact BK162.out)) : gb162 ≠ gb175)); have n8_ := Aside0.mk ((by rw [hg]; exact Nat.ne_of_gt (blk_lt (g := gb162) (o := .cells #[.int .i64 t166, .int .i64 t167] 23 (0, 0)) (by (with_reducible repeat (first | refine blk_drewN ?_ _ | refine blk_drew ?_ | refine blk_alloc ?_ _)); exact BK162.out)) : gb175 ≠ gb162)); have n9_ := Aside0.mk ((by rw [hg]; exact Nat.ne_of_lt (blk_lt (g := gb164) (o := .cells #[.int .u64 ((rd_T26 l0 x8_1).f0), .bool ((rd_T26 l0 x8_1).f1), .bool ((rd_T26 l0 x8_1).f2), .int .i64 ((rd_T26 l0 x8_1).f3)] 26 (0, 0)) (by (with_reducible repeat (first | refine blk_drewN ?_ _ | refine blk_drew ?_ | refine blk_alloc ?_ _)); exact BK164.out)) : gb164 ≠ gb175)); have n10_ := Aside0.mk ((by rw [hg]; exact Nat.ne_of_gt (blk_lt (g := gb164) (o := .cells #[.int .u64 ((rd_T26 l0 x8_1).f0), .bool ((rd_T26 l0 x8_1).f1), .bool ((rd_T26 l0 x8_1).f2), .int .i64 ((rd_T26 l0 x8_1).f3)] 26 (0, 0)) (by (with_reducible repeat (first | refine blk_drewN ?_ _ | refine blk_drew ?_ | refine blk_alloc ?_ _)); exact BK164.out)) : gb175 ≠ gb164)); have n11_ := Aside0.mk ((by rw [hg]; exact Nat.ne_of_lt (blk_lt (g := gb165) (o := .cells #[.int .i64 x163000_1, .int .i64 x163001_1] 23 (0, 0)) (by (with_reducible repeat (first | refine blk_drewN ?_ _ | refine blk_drew ?_ | refine blk_alloc ?_ _)); exact BK165.out)) : gb165 ≠ gb175)); have n12_ := Aside0.mk ((by rw [hg]; exact Nat.ne_of_gt (blk_lt (g := gb165) (o := .cells #[.int .i64 x163000_1, .int .i64 x163001_1] 23 (0, 0)) (by (with_reducible repeat (first | refine blk_drewN ?_ _ | refine blk_drew ?_ | refine blk_alloc ?_ _)); exact BK165.out)) : gb175 ≠ gb165)); clear BK162; clear BK164; clear BK165; clear HB; have BK162 := n0_; have BK164 := n1_; have BK165 := n2_; have HB := n3_; have BK175 := n4_; have GW175 := n5_; have GE175 := n6_; have NB162_175 := n7_; have NB175_162 := n8_; have NB164_175 := n9_; have NB175_164 := n10_; have NB165_175 := n11_; have NB175_165 := n12_; clear n0_ n1_ n2_ n3_ n4_ n5_ n6_ n7_ n8_ n9_ n10_ n11_ n12_; clear hb hbox hg; have hnb183 := NB175_162.out; have hnc183 := NB162_175.out; have hnb184 := NB175_164.out; have hnc184 := NB164_175.out; have hnb185 := NB175_165.out; have hnc185 := NB165_175.out; have hcz186_0 : w182.cell? ⟨gb175, 0, none⟩ = some (.int .i64 0) := (blk_cell BK175.out 0).trans rfl; have hcz186_1 : w182.cell? ⟨gb175, 1, none⟩ = some (.int .i64 0) := (blk_cell BK175.out 1).trans rfl; have hfz186_0 := blk_frozen BK175.out 0; have hfz186_1 := blk_frozen BK175.out 1; have hcz187_0 : w182.cell? ⟨gb164, 0, none⟩ = some (.int .u64 ((rd_T26 l0 x8_1).f0)) := (blk_cell BK164.out 0).trans rfl; have hcz187_1 : w182.cell? ⟨gb164, 1, none⟩ = some (.bool ((rd_T26 l0 x8_1).f1)) := (blk_cell BK164.out 1).trans rfl; have hcz187_2 : w182.cell? ⟨gb164, 2, none⟩ = some (.bool ((rd_T26 l0 x8_1).f2)) := (blk_cell BK164.out 2).trans rfl; have hcz187_3 : w182.cell? ⟨gb164, 3, none⟩ = some (.int .i64 ((rd_T26 l0 x8_1).f3)) := (blk_cell BK164.out 3).trans rfl; have hfz187_0 := blk_frozen BK164.out 0; have hfz187_1 := blk_frozen BK164.out 1; have hfz187_2 := blk_frozen BK164.out 2; have hfz187_3 := blk_frozen BK164.out 3) | (go_at_call 13; (with_reducible refine (order_Has.calls ((rd_T26 l0 x8_1).f0) ((rd_T26 l0 x8_1).f3) t176 _ A146.out).mono ?_); rintro e w' ⟨rfl, ⟨nd, rfl⟩⟩))
                                      go_ret
                                      exact ⟨by first | rfl | (simp [errW_none, errW_some] <;> rfl) | (simp [*, errW_none, errW_some] <;> rfl), by repeat (first | (with_reducible first | exact HB.out | apply below_alloc | apply pw_below_drewN | apply below_drew1 | refine below_set ?_ GE162.out | refine below_set ?_ GE164.out | refine below_set ?_ GE165.out | refine below_set ?_ GE175.out) | exact HB.out)⟩
                                  · rw [if_neg c161] at H
                                    have c161b0 : (t172 == ((rd_T26 l0 x8_1).f3)) = false := beq_eq_false_iff_ne.mpr c161
                                    have c161b1 : (t172 != ((rd_T26 l0 x8_1).f3)) = true := bne_iff_ne.mpr c161
                                    obtain rfl := Option.some.inj H
                                    have hnb188 := NB164_162.out
                                    have hnc188 := NB162_164.out
                                    have hnb189 := NB164_165.out
                                    have hnc189 := NB165_164.out
                                    have hcz190_0 : wc.cell? ⟨gb164, 0, none⟩ = some (.int .u64 ((rd_T26 l0 x8_1).f0)) := (blk_cell BK164.out 0).trans rfl
                                    have hcz190_1 : wc.cell? ⟨gb164, 1, none⟩ = some (.bool ((rd_T26 l0 x8_1).f1)) := (blk_cell BK164.out 1).trans rfl
                                    have hcz190_2 : wc.cell? ⟨gb164, 2, none⟩ = some (.bool ((rd_T26 l0 x8_1).f2)) := (blk_cell BK164.out 2).trans rfl
                                    have hcz190_3 : wc.cell? ⟨gb164, 3, none⟩ = some (.int .i64 ((rd_T26 l0 x8_1).f3)) := (blk_cell BK164.out 3).trans rfl
                                    have hfz190_0 := blk_frozen BK164.out 0
                                    have hfz190_1 := blk_frozen BK164.out 1
                                    have hfz190_2 := blk_frozen BK164.out 2
                                    have hfz190_3 := blk_frozen BK164.out 3
                                    have hnb191 := NB162_165.out
                                    have hnc191 := NB165_162.out
                                    have hcz192_0 : wc.cell? ⟨gb162, 0, none⟩ = some (.int .i64 t166) := (blk_cell BK162.out 0).trans rfl
                                    have hcz192_1 : wc.cell? ⟨gb162, 1, none⟩ = some (.int .i64 t167) := (blk_cell BK162.out 1).trans rfl
                                    have hfz192_0 := blk_frozen BK162.out 0
                                    have hfz192_1 := blk_frozen BK162.out 1
                                    go_wp2_with (first | ((with_reducible refine gate_callee (f := 10) rfl ?_); refine goesL_ (some 94) rfl rfl Tryd.func10 (by kernel_rfl) rfl #[.agg #[.int .i64 t166, .int .i64 t167], .int .i64 ((rd_T26 l0 x8_1).f3), .int .u64 ((rd_T26 l0 x8_1).f0), .bool false, .int .i64 (wrap64 ((wrap64 (Int.tmod a1 20)) + 1))] rfl (by (try simp only [List.map_toArray, List.map_cons, List.map_nil]); first | done | rfl | (simp only [List.length_drop, List.length_take]; rfl)) ?_; (with_reducible refine (turn_Turn_Pick.calls t166 t167 ((rd_T26 l0 x8_1).f3) ((rd_T26 l0 x8_1).f0) false (wrap64 ((wrap64 (Int.tmod a1 20)) + 1)) t172 t173 true _ A64.out).mono ?_); rintro e w193 ⟨rfl, hb⟩; refine ⟨_, rfl, ?_⟩; have n0_ := Aside0.mk (blk_below (g := gb162) (o := .cells #[.int .i64 t166, .int .i64 t167] 23 (0, 0)) (by (with_reducible repeat (first | refine blk_drewN ?_ _ | refine blk_drew ?_ | refine blk_alloc ?_ _)); exact BK162.out) hb); have n1_ := Aside0.mk (blk_below (g := gb164) (o := .cells #[.int .u64 ((rd_T26 l0 x8_1).f0), .bool ((rd_T26 l0 x8_1).f1), .bool ((rd_T26 l0 x8_1).f2), .int .i64 ((rd_T26 l0 x8_1).f3)] 26 (0, 0)) (by (with_reducible repeat (first | refine blk_drewN ?_ _ | refine blk_drew ?_ | refine blk_alloc ?_ _)); exact BK164.out) hb); have n2_ := Aside0.mk (blk_below (g := gb165) (o := .cells #[.int .i64 x163000_1, .int .i64 x163001_1] 23 (0, 0)) (by (with_reducible repeat (first | refine blk_drewN ?_ _ | refine blk_drew ?_ | refine blk_alloc ?_ _)); exact BK165.out) hb); have n3_ := Aside0.mk (below_step (by repeat (first | (with_reducible first | exact HB.out | apply below_alloc | apply pw_below_drewN | apply below_drew1 | refine below_set ?_ GE162.out | refine below_set ?_ GE164.out | refine below_set ?_ GE165.out) | exact HB.out)) hb); clear BK162; clear BK164; clear BK165; clear HB; have BK162 := n0_; have BK164 := n1_; have BK165 := n2_; have HB := n3_; clear n0_ n1_ n2_ n3_; (try clear hb); (try clear hb2); (try clear hk); (try clear hi)) | ((with_reducible refine gate_dst (N := 11) rfl ?_); refine box_event ?hg (N := 11) ?hd (cs := #[.int .i64 0, .int .i64 0]) (t := 23) ?hr ?_; (case hd => rfl); (case hg => rfl); (case hr => first | (go_simp; done) | (go_simp; rfl)); intro gb175 hg w194 hbox hb; have n0_ := Aside0.mk (blk_below (g := gb162) (o := .cells #[.int .i64 t166, .int .i64 t167] 23 (0, 0)) (by (with_reducible repeat (first | refine blk_drewN ?_ _ | refine blk_drew ?_ | refine blk_alloc ?_ _)); exact BK162.out) hb); have n1_ := Aside0.mk (blk_below (g := gb164) (o := .cells #[.int .u64 ((rd_T26 l0 x8_1).f0), .bool ((rd_T26 l0 x8_1).f1), .bool ((rd_T26 l0 x8_1).f2), .int .i64 ((rd_T26 l0 x8_1).f3)] 26 (0, 0)) (by (with_reducible repeat (first | refine blk_drewN ?_ _ | refine blk_drew ?_ | refine blk_alloc ?_ _)); exact BK164.out) hb); have n2_ := Aside0.mk (blk_below (g := gb165) (o := .cells #[.int .i64 x163000_1, .int .i64 x163001_1] 23 (0, 0)) (by (with_reducible repeat (first | refine blk_drewN ?_ _ | refine blk_drew ?_ | refine blk_alloc ?_ _)); exact BK165.out) hb); have n3_ := Aside0.mk (below_step (by repeat (first | (with_reducible first | exact HB.out | apply below_alloc | apply pw_below_drewN | apply below_drew1 | refine below_set ?_ GE162.out | refine below_set ?_ GE164.out | refine below_set ?_ GE165.out) | exact HB.out)) hb); have n4_ := Aside0.mk (hbox); have n5_ := Aside0.mk ((by rw [hg]; exact (below_size (by repeat (first | (with_reducible first | exact HB.out | apply below_alloc | apply pw_below_drewN | apply below_drew1 | refine below_set ?_ GE162.out | refine below_set ?_ GE164.out | refine below_set ?_ GE165.out) | exact HB.out))) : w.heap.size ≤ gb175)); have n6_ := Aside0.mk ((by rw [hg]; exact (below_size (by repeat (first | (with_reducible first | exact HB.out | apply below_alloc | apply pw_below_drewN | apply below_drew1 | refine below_set ?_ GE162.out | refine below_set ?_ GE164.out | refine below_set ?_ GE165.out) | exact HB.out))) : w.heap.size ≤ gb175)); have n7_ := Aside0.mk ((by rw [hg]; exact Nat.ne_of_lt (blk_lt (g := gb162) (o := .cells #[.int .i64 t166, .int .i64 t167] 23 (0, 0)) (by (with_reducible repeat (first | refine blk_drewN ?_ _ | refine blk_drew ?_ | refine blk_alloc ?_ _)); exact BK162.out)) : gb162 ≠ gb175)); have n8_ := Aside0.mk ((by rw [hg]; exact Nat.ne_of_gt (blk_lt (g := gb162) (o := .cells #[.int .i64 t166, .int .i64 t167] 23 (0, 0)) (by (with_reducible repeat (first | refine blk_drewN ?_ _ | refine blk_drew ?_ | refine blk_alloc ?_ _)); exact BK162.out)) : gb175 ≠ gb162)); have n9_ := Aside0.mk ((by rw [hg]; exact Nat.ne_of_lt (blk_lt (g := gb164) (o := .cells #[.int .u64 ((rd_T26 l0 x8_1).f0), .bool ((rd_T26 l0 x8_1).f1), .bool ((rd_T26 l0 x8_1).f2), .int .i64 ((rd_T26 l0 x8_1).f3)] 26 (0, 0)) (by (with_reducible repeat (first | refine blk_drewN ?_ _ | refine blk_drew ?_ | refine blk_alloc ?_ _)); exact BK164.out)) : gb164 ≠ gb175)); have n10_ := Aside0.mk ((by rw [hg]; exact Nat.ne_of_gt (blk_lt (g := gb164) (o := .cells #[.int .u64 ((rd_T26 l0 x8_1).f0), .bool ((rd_T26 l0 x8_1).f1), .bool ((rd_T26 l0 x8_1).f2), .int .i64 ((rd_T26 l0 x8_1).f3)] 26 (0, 0)) (by (with_reducible repeat (first | refine blk_drewN ?_ _ | refine blk_drew ?_ | refine blk_alloc ?_ _)); exact BK164.out)) : gb175 ≠ gb164)); have n11_ := Aside0.mk ((by rw [hg]; exact Nat.ne_of_lt (blk_lt (g := gb165) (o := .cells #[.int .i64 x163000_1, .int .i64 x163001_1] 23 (0, 0)) (by (with_reducible repeat (first | refine blk_drewN ?_ _ | refine blk_drew ?_ | refine blk_alloc ?_ _)); exact BK165.out)) : gb165 ≠ gb175)); have n12_ := Aside0.mk ((by rw [hg]; exact Nat.ne_of_gt (blk_lt (g := gb165) (o := .cells #[.int .i64 x163000_1, .int .i64 x163001_1] 23 (0, 0)) (by (with_reducible repeat (first | refine blk_drewN ?_ _ | refine blk_drew ?_ | refine blk_alloc ?_ _)); exact BK165.out)) : gb175 ≠ gb165)); clear BK162; clear BK164; clear BK165; clear HB; have BK162 := n0_; have BK164 := n1_; have BK165 := n2_; have HB := n3_; have BK175 := n4_; have GW175 := n5_; have GE175 := n6_; have NB162_175 := n7_; have NB175_162 := n8_; have NB164_175 := n9_; have NB175_164 := n10_; have NB165_175 := n11_; have NB175_165 := n12_; clear n0_ n1_ n2_ n3_ n4_ n5_ n6_ n7_ n8_ n9_ n10_ n11_ n12_; clear hb hbox hg; have hnb195 := NB175_162.out; have hnc195 := NB162_175.out; have hnb196 := NB175_164.out; have hnc196 := NB164_175.out; have hnb197 := NB175_165.out; have hnc197 := NB165_175.out; have hcz198_0 : w194.cell? ⟨gb175, 0, none⟩ = some (.int .i64 0) := (blk_cell BK175.out 0).trans rfl; have hcz198_1 : w194.cell? ⟨gb175, 1, none⟩ = some (.int .i64 0) := (blk_cell BK175.out 1).trans rfl; have hfz198_0 := blk_frozen BK175.out 0; have hfz198_1 := blk_frozen BK175.out 1; have hcz199_0 : w194.cell? ⟨gb164, 0, none⟩ = some (.int .u64 ((rd_T26 l0 x8_1).f0)) := (blk_cell BK164.out 0).trans rfl; have hcz199_1 : w194.cell? ⟨gb164, 1, none⟩ = some (.bool ((rd_T26 l0 x8_1).f1)) := (blk_cell BK164.out 1).trans rfl; have hcz199_2 : w194.cell? ⟨gb164, 2, none⟩ = some (.bool ((rd_T26 l0 x8_1).f2)) := (blk_cell BK164.out 2).trans rfl; have hcz199_3 : w194.cell? ⟨gb164, 3, none⟩ = some (.int .i64 ((rd_T26 l0 x8_1).f3)) := (blk_cell BK164.out 3).trans rfl; have hfz199_0 := blk_frozen BK164.out 0; have hfz199_1 := blk_frozen BK164.out 1; have hfz199_2 := blk_frozen BK164.out 2; have hfz199_3 := blk_frozen BK164.out 3) | (go_at_call 13; (with_reducible refine (order_Has.calls ((rd_T26 l0 x8_1).f0) ((rd_T26 l0 x8_1).f3) t176 _ A146.out).mono ?_); rintro e w' ⟨rfl, ⟨nd, rfl⟩⟩))
                                    go_ret
                                    exact ⟨by first | rfl | (simp [errW_none, errW_some] <;> rfl) | (simp [*, errW_none, errW_some] <;> rfl), by repeat (first | (with_reducible first | exact HB.out | apply below_alloc | apply pw_below_drewN | apply below_drew1 | refine below_set ?_ GE162.out | refine below_set ?_ GE164.out | refine below_set ?_ GE165.out | refine below_set ?_ GE175.out) | exact HB.out)⟩
                                · replace c160 := Bool.eq_false_iff.mpr c160
                                  subst c160
                                  have H1 : (if (!(t172 == t166) || (!(t173 == t167))) = true then (some false) else (paternosterlaw20_TurnReady.l0 kj43 l0 (wrap64 ((wrap64 (Int.tmod a1 20)) + 1)) (wrap64 (x8_1 + 1)) t172 t173)) = some r := by rw [if_neg (show ¬ (false = true) by decide)] at H; exact H
                                  clear H
                                  have H := H1
                                  clear H1
                                  by_cases c200 : (!(t172 == t166) || (!(t173 == t167))) = true
                                  · rw [if_pos c200] at H
                                    have c200b0 : (!(t172 == t166) || (!(t173 == t167))) = true := c200
                                    clear c200
                                    obtain rfl := Option.some.inj H
                                    have hnb201 := NB164_162.out
                                    have hnc201 := NB162_164.out
                                    have hnb202 := NB164_165.out
                                    have hnc202 := NB165_164.out
                                    have hcz203_0 : wc.cell? ⟨gb164, 0, none⟩ = some (.int .u64 ((rd_T26 l0 x8_1).f0)) := (blk_cell BK164.out 0).trans rfl
                                    have hcz203_1 : wc.cell? ⟨gb164, 1, none⟩ = some (.bool ((rd_T26 l0 x8_1).f1)) := (blk_cell BK164.out 1).trans rfl
                                    have hcz203_2 : wc.cell? ⟨gb164, 2, none⟩ = some (.bool ((rd_T26 l0 x8_1).f2)) := (blk_cell BK164.out 2).trans rfl
                                    have hcz203_3 : wc.cell? ⟨gb164, 3, none⟩ = some (.int .i64 ((rd_T26 l0 x8_1).f3)) := (blk_cell BK164.out 3).trans rfl
                                    have hfz203_0 := blk_frozen BK164.out 0
                                    have hfz203_1 := blk_frozen BK164.out 1
                                    have hfz203_2 := blk_frozen BK164.out 2
                                    have hfz203_3 := blk_frozen BK164.out 3
                                    have hnb204 := NB162_165.out
                                    have hnc204 := NB165_162.out
                                    have hcz205_0 : wc.cell? ⟨gb162, 0, none⟩ = some (.int .i64 t166) := (blk_cell BK162.out 0).trans rfl
                                    have hcz205_1 : wc.cell? ⟨gb162, 1, none⟩ = some (.int .i64 t167) := (blk_cell BK162.out 1).trans rfl
                                    have hfz205_0 := blk_frozen BK162.out 0
                                    have hfz205_1 := blk_frozen BK162.out 1
                                    go_wp2_with (first | ((with_reducible refine gate_callee (f := 10) rfl ?_); refine goesL_ (some 94) rfl rfl Tryd.func10 (by kernel_rfl) rfl #[.agg #[.int .i64 t166, .int .i64 t167], .int .i64 ((rd_T26 l0 x8_1).f3), .int .u64 ((rd_T26 l0 x8_1).f0), .bool false, .int .i64 (wrap64 ((wrap64 (Int.tmod a1 20)) + 1))] rfl (by (try simp only [List.map_toArray, List.map_cons, List.map_nil]); first | done | rfl | (simp only [List.length_drop, List.length_take]; rfl)) ?_; (with_reducible refine (turn_Turn_Pick.calls t166 t167 ((rd_T26 l0 x8_1).f3) ((rd_T26 l0 x8_1).f0) false (wrap64 ((wrap64 (Int.tmod a1 20)) + 1)) t172 t173 false _ A64.out).mono ?_); rintro e w206 ⟨rfl, hb⟩; refine ⟨_, rfl, ?_⟩; have n0_ := Aside0.mk (blk_below (g := gb162) (o := .cells #[.int .i64 t166, .int .i64 t167] 23 (0, 0)) (by (with_reducible repeat (first | refine blk_drewN ?_ _ | refine blk_drew ?_ | refine blk_alloc ?_ _)); exact BK162.out) hb); have n1_ := Aside0.mk (blk_below (g := gb164) (o := .cells #[.int .u64 ((rd_T26 l0 x8_1).f0), .bool ((rd_T26 l0 x8_1).f1), .bool ((rd_T26 l0 x8_1).f2), .int .i64 ((rd_T26 l0 x8_1).f3)] 26 (0, 0)) (by (with_reducible repeat (first | refine blk_drewN ?_ _ | refine blk_drew ?_ | refine blk_alloc ?_ _)); exact BK164.out) hb); have n2_ := Aside0.mk (blk_below (g := gb165) (o := .cells #[.int .i64 x163000_1, .int .i64 x163001_1] 23 (0, 0)) (by (with_reducible repeat (first | refine blk_drewN ?_ _ | refine blk_drew ?_ | refine blk_alloc ?_ _)); exact BK165.out) hb); have n3_ := Aside0.mk (below_step (by repeat (first | (with_reducible first | exact HB.out | apply below_alloc | apply pw_below_drewN | apply below_drew1 | refine below_set ?_ GE162.out | refine below_set ?_ GE164.out | refine below_set ?_ GE165.out) | exact HB.out)) hb); clear BK162; clear BK164; clear BK165; clear HB; have BK162 := n0_; have BK164 := n1_; have BK165 := n2_; have HB := n3_; clear n0_ n1_ n2_ n3_; (try clear hb); (try clear hb2); (try clear hk); (try clear hi)) | ((with_reducible refine gate_dst (N := 11) rfl ?_); refine box_event ?hg (N := 11) ?hd (cs := #[.int .i64 0, .int .i64 0]) (t := 23) ?hr ?_; (case hd => rfl); (case hg => rfl); (case hr => first | (go_simp; done) | (go_simp; rfl)); intro gb175 hg w207 hbox hb; have n0_ := Aside0.mk (blk_below (g := gb162) (o := .cells #[.int .i64 t166, .int .i64 t167] 23 (0, 0)) (by (with_reducible repeat (first | refine blk_drewN ?_ _ | refine blk_drew ?_ | refine blk_alloc ?_ _)); exact BK162.out) hb); have n1_ := Aside0.mk (blk_below (g := gb164) (o := .cells #[.int .u64 ((rd_T26 l0 x8_1).f0), .bool ((rd_T26 l0 x8_1).f1), .bool ((rd_T26 l0 x8_1).f2), .int .i64 ((rd_T26 l0 x8_1).f3)] 26 (0, 0)) (by (with_reducible repeat (first | refine blk_drewN ?_ _ | refine blk_drew ?_ | refine blk_alloc ?_ _)); exact BK164.out) hb); have n2_ := Aside0.mk (blk_below (g := gb165) (o := .cells #[.int .i64 x163000_1, .int .i64 x163001_1] 23 (0, 0)) (by (with_reducible repeat (first | refine blk_drewN ?_ _ | refine blk_drew ?_ | refine blk_alloc ?_ _)); exact BK165.out) hb); have n3_ := Aside0.mk (below_step (by repeat (first | (with_reducible first | exact HB.out | apply below_alloc | apply pw_below_drewN | apply below_drew1 | refine below_set ?_ GE162.out | refine below_set ?_ GE164.out | refine below_set ?_ GE165.out) | exact HB.out)) hb); have n4_ := Aside0.mk (hbox); have n5_ := Aside0.mk ((by rw [hg]; exact (below_size (by repeat (first | (with_reducible first | exact HB.out | apply below_alloc | apply pw_below_drewN | apply below_drew1 | refine below_set ?_ GE162.out | refine below_set ?_ GE164.out | refine below_set ?_ GE165.out) | exact HB.out))) : w.heap.size ≤ gb175)); have n6_ := Aside0.mk ((by rw [hg]; exact (below_size (by repeat (first | (with_reducible first | exact HB.out | apply below_alloc | apply pw_below_drewN | apply below_drew1 | refine below_set ?_ GE162.out | refine below_set ?_ GE164.out | refine below_set ?_ GE165.out) | exact HB.out))) : w.heap.size ≤ gb175)); have n7_ := Aside0.mk ((by rw [hg]; exact Nat.ne_of_lt (blk_lt (g := gb162) (o := .cells #[.int .i64 t166, .int .i64 t167] 23 (0, 0)) (by (with_reducible repeat (first | refine blk_drewN ?_ _ | refine blk_drew ?_ | refine blk_alloc ?_ _)); exact BK162.out)) : gb162 ≠ gb175)); have n8_ := Aside0.mk ((by rw [hg]; exact Nat.ne_of_gt (blk_lt (g := gb162) (o := .cells #[.int .i64 t166, .int .i64 t167] 23 (0, 0)) (by (with_reducible repeat (first | refine blk_drewN ?_ _ | refine blk_drew ?_ | refine blk_alloc ?_ _)); exact BK162.out)) : gb175 ≠ gb162)); have n9_ := Aside0.mk ((by rw [hg]; exact Nat.ne_of_lt (blk_lt (g := gb164) (o := .cells #[.int .u64 ((rd_T26 l0 x8_1).f0), .bool ((rd_T26 l0 x8_1).f1), .bool ((rd_T26 l0 x8_1).f2), .int .i64 ((rd_T26 l0 x8_1).f3)] 26 (0, 0)) (by (with_reducible repeat (first | refine blk_drewN ?_ _ | refine blk_drew ?_ | refine blk_alloc ?_ _)); exact BK164.out)) : gb164 ≠ gb175)); have n10_ := Aside0.mk ((by rw [hg]; exact Nat.ne_of_gt (blk_lt (g := gb164) (o := .cells #[.int .u64 ((rd_T26 l0 x8_1).f0), .bool ((rd_T26 l0 x8_1).f1), .bool ((rd_T26 l0 x8_1).f2), .int .i64 ((rd_T26 l0 x8_1).f3)] 26 (0, 0)) (by (with_reducible repeat (first | refine blk_drewN ?_ _ | refine blk_drew ?_ | refine blk_alloc ?_ _)); exact BK164.out)) : gb175 ≠ gb164)); have n11_ := Aside0.mk ((by rw [hg]; exact Nat.ne_of_lt (blk_lt (g := gb165) (o := .cells #[.int .i64 x163000_1, .int .i64 x163001_1] 23 (0, 0)) (by (with_reducible repeat (first | refine blk_drewN ?_ _ | refine blk_drew ?_ | refine blk_alloc ?_ _)); exact BK165.out)) : gb165 ≠ gb175)); have n12_ := Aside0.mk ((by rw [hg]; exact Nat.ne_of_gt (blk_lt (g := gb165) (o := .cells #[.int .i64 x163000_1, .int .i64 x163001_1] 23 (0, 0)) (by (with_reducible repeat (first | refine blk_drewN ?_ _ | refine blk_drew ?_ | refine blk_alloc ?_ _)); exact BK165.out)) : gb175 ≠ gb165)); clear BK162; clear BK164; clear BK165; clear HB; have BK162 := n0_; have BK164 := n1_; have BK165 := n2_; have HB := n3_; have BK175 := n4_; have GW175 := n5_; have GE175 := n6_; have NB162_175 := n7_; have NB175_162 := n8_; have NB164_175 := n9_; have NB175_164 := n10_; have NB165_175 := n11_; have NB175_165 := n12_; clear n0_ n1_ n2_ n3_ n4_ n5_ n6_ n7_ n8_ n9_ n10_ n11_ n12_; clear hb hbox hg; have hnb208 := NB175_162.out; have hnc208 := NB162_175.out; have hnb209 := NB175_164.out; have hnc209 := NB164_175.out; have hnb210 := NB175_165.out; have hnc210 := NB165_175.out; have hcz211_0 : w207.cell? ⟨gb175, 0, none⟩ = some (.int .i64 0) := (blk_cell BK175.out 0).trans rfl; have hcz211_1 : w207.cell? ⟨gb175, 1, none⟩ = some (.int .i64 0) := (blk_cell BK175.out 1).trans rfl; have hfz211_0 := blk_frozen BK175.out 0; have hfz211_1 := blk_frozen BK175.out 1; have hcz212_0 : w207.cell? ⟨gb164, 0, none⟩ = some (.int .u64 ((rd_T26 l0 x8_1).f0)) := (blk_cell BK164.out 0).trans rfl; have hcz212_1 : w207.cell? ⟨gb164, 1, none⟩ = some (.bool ((rd_T26 l0 x8_1).f1)) := (blk_cell BK164.out 1).trans rfl; have hcz212_2 : w207.cell? ⟨gb164, 2, none⟩ = some (.bool ((rd_T26 l0 x8_1).f2)) := (blk_cell BK164.out 2).trans rfl; have hcz212_3 : w207.cell? ⟨gb164, 3, none⟩ = some (.int .i64 ((rd_T26 l0 x8_1).f3)) := (blk_cell BK164.out 3).trans rfl; have hfz212_0 := blk_frozen BK164.out 0; have hfz212_1 := blk_frozen BK164.out 1; have hfz212_2 := blk_frozen BK164.out 2; have hfz212_3 := blk_frozen BK164.out 3) | (go_at_call 13; (with_reducible refine (order_Has.calls ((rd_T26 l0 x8_1).f0) ((rd_T26 l0 x8_1).f3) t176 _ A146.out).mono ?_); rintro e w' ⟨rfl, ⟨nd, rfl⟩⟩; have hcz213_0 : w207.cell? ⟨gb162, 0, none⟩ = some (.int .i64 t166) := (blk_cell BK162.out 0).trans rfl; have hcz213_1 : w207.cell? ⟨gb162, 1, none⟩ = some (.int .i64 t167) := (blk_cell BK162.out 1).trans rfl; have hfz213_0 := blk_frozen BK162.out 0; have hfz213_1 := blk_frozen BK162.out 1))
                                    go_ret
                                    exact ⟨by first | rfl | (simp [errW_none, errW_some] <;> rfl) | (simp [*, errW_none, errW_some] <;> rfl), by repeat (first | (with_reducible first | exact HB.out | apply below_alloc | apply pw_below_drewN | apply below_drew1 | refine below_set ?_ GE162.out | refine below_set ?_ GE164.out | refine below_set ?_ GE165.out | refine below_set ?_ GE175.out) | exact HB.out)⟩
                                  · rw [if_neg c200] at H
                                    have c200b0 : (!(t172 == t166) || (!(t173 == t167))) = false := by simpa using c200
                                    clear c200
                                    have H' := Aside0.mk H
                                    clear H
                                    have hnb214 := NB164_162.out
                                    have hnc214 := NB162_164.out
                                    have hnb215 := NB164_165.out
                                    have hnc215 := NB165_164.out
                                    have hcz216_0 : wc.cell? ⟨gb164, 0, none⟩ = some (.int .u64 ((rd_T26 l0 x8_1).f0)) := (blk_cell BK164.out 0).trans rfl
                                    have hcz216_1 : wc.cell? ⟨gb164, 1, none⟩ = some (.bool ((rd_T26 l0 x8_1).f1)) := (blk_cell BK164.out 1).trans rfl
                                    have hcz216_2 : wc.cell? ⟨gb164, 2, none⟩ = some (.bool ((rd_T26 l0 x8_1).f2)) := (blk_cell BK164.out 2).trans rfl
                                    have hcz216_3 : wc.cell? ⟨gb164, 3, none⟩ = some (.int .i64 ((rd_T26 l0 x8_1).f3)) := (blk_cell BK164.out 3).trans rfl
                                    have hfz216_0 := blk_frozen BK164.out 0
                                    have hfz216_1 := blk_frozen BK164.out 1
                                    have hfz216_2 := blk_frozen BK164.out 2
                                    have hfz216_3 := blk_frozen BK164.out 3
                                    have hnb217 := NB162_165.out
                                    have hnc217 := NB165_162.out
                                    have hcz218_0 : wc.cell? ⟨gb162, 0, none⟩ = some (.int .i64 t166) := (blk_cell BK162.out 0).trans rfl
                                    have hcz218_1 : wc.cell? ⟨gb162, 1, none⟩ = some (.int .i64 t167) := (blk_cell BK162.out 1).trans rfl
                                    have hfz218_0 := blk_frozen BK162.out 0
                                    have hfz218_1 := blk_frozen BK162.out 1
                                    go_wp2_with (first | ((with_reducible refine gate_callee (f := 10) rfl ?_); refine goesL_ (some 94) rfl rfl Tryd.func10 (by kernel_rfl) rfl #[.agg #[.int .i64 t166, .int .i64 t167], .int .i64 ((rd_T26 l0 x8_1).f3), .int .u64 ((rd_T26 l0 x8_1).f0), .bool false, .int .i64 (wrap64 ((wrap64 (Int.tmod a1 20)) + 1))] rfl (by (try simp only [List.map_toArray, List.map_cons, List.map_nil]); first | done | rfl | (simp only [List.length_drop, List.length_take]; rfl)) ?_; (with_reducible refine (turn_Turn_Pick.calls t166 t167 ((rd_T26 l0 x8_1).f3) ((rd_T26 l0 x8_1).f0) false (wrap64 ((wrap64 (Int.tmod a1 20)) + 1)) t172 t173 false _ A64.out).mono ?_); rintro e w219 ⟨rfl, hb⟩; refine ⟨_, rfl, ?_⟩; have n0_ := Aside0.mk (blk_below (g := gb162) (o := .cells #[.int .i64 t166, .int .i64 t167] 23 (0, 0)) (by (with_reducible repeat (first | refine blk_drewN ?_ _ | refine blk_drew ?_ | refine blk_alloc ?_ _)); exact BK162.out) hb); have n1_ := Aside0.mk (blk_below (g := gb164) (o := .cells #[.int .u64 ((rd_T26 l0 x8_1).f0), .bool ((rd_T26 l0 x8_1).f1), .bool ((rd_T26 l0 x8_1).f2), .int .i64 ((rd_T26 l0 x8_1).f3)] 26 (0, 0)) (by (with_reducible repeat (first | refine blk_drewN ?_ _ | refine blk_drew ?_ | refine blk_alloc ?_ _)); exact BK164.out) hb); have n2_ := Aside0.mk (blk_below (g := gb165) (o := .cells #[.int .i64 x163000_1, .int .i64 x163001_1] 23 (0, 0)) (by (with_reducible repeat (first | refine blk_drewN ?_ _ | refine blk_drew ?_ | refine blk_alloc ?_ _)); exact BK165.out) hb); have n3_ := Aside0.mk (below_step (by repeat (first | (with_reducible first | exact HB.out | apply below_alloc | apply pw_below_drewN | apply below_drew1 | refine below_set ?_ GE162.out | refine below_set ?_ GE164.out | refine below_set ?_ GE165.out) | exact HB.out)) hb); clear BK162; clear BK164; clear BK165; clear HB; have BK162 := n0_; have BK164 := n1_; have BK165 := n2_; have HB := n3_; clear n0_ n1_ n2_ n3_; (try clear hb); (try clear hb2); (try clear hk); (try clear hi)) | ((with_reducible refine gate_dst (N := 11) rfl ?_); refine box_event ?hg (N := 11) ?hd (cs := #[.int .i64 0, .int .i64 0]) (t := 23) ?hr ?_; (case hd => rfl); (case hg => rfl); (case hr => first | (go_simp; done) | (go_simp; rfl)); intro gb175 hg w220 hbox hb; have n0_ := Aside0.mk (blk_below (g := gb162) (o := .cells #[.int .i64 t166, .int .i64 t167] 23 (0, 0)) (by (with_reducible repeat (first | refine blk_drewN ?_ _ | refine blk_drew ?_ | refine blk_alloc ?_ _)); exact BK162.out) hb); have n1_ := Aside0.mk (blk_below (g := gb164) (o := .cells #[.int .u64 ((rd_T26 l0 x8_1).f0), .bool ((rd_T26 l0 x8_1).f1), .bool ((rd_T26 l0 x8_1).f2), .int .i64 ((rd_T26 l0 x8_1).f3)] 26 (0, 0)) (by (with_reducible repeat (first | refine blk_drewN ?_ _ | refine blk_drew ?_ | refine blk_alloc ?_ _)); exact BK164.out) hb); have n2_ := Aside0.mk (blk_below (g := gb165) (o := .cells #[.int .i64 x163000_1, .int .i64 x163001_1] 23 (0, 0)) (by (with_reducible repeat (first | refine blk_drewN ?_ _ | refine blk_drew ?_ | refine blk_alloc ?_ _)); exact BK165.out) hb); have n3_ := Aside0.mk (below_step (by repeat (first | (with_reducible first | exact HB.out | apply below_alloc | apply pw_below_drewN | apply below_drew1 | refine below_set ?_ GE162.out | refine below_set ?_ GE164.out | refine below_set ?_ GE165.out) | exact HB.out)) hb); have n4_ := Aside0.mk (hbox); have n5_ := Aside0.mk ((by rw [hg]; exact (below_size (by repeat (first | (with_reducible first | exact HB.out | apply below_alloc | apply pw_below_drewN | apply below_drew1 | refine below_set ?_ GE162.out | refine below_set ?_ GE164.out | refine below_set ?_ GE165.out) | exact HB.out))) : w.heap.size ≤ gb175)); have n6_ := Aside0.mk ((by rw [hg]; exact (below_size (by repeat (first | (with_reducible first | exact HB.out | apply below_alloc | apply pw_below_drewN | apply below_drew1 | refine below_set ?_ GE162.out | refine below_set ?_ GE164.out | refine below_set ?_ GE165.out) | exact HB.out))) : w.heap.size ≤ gb175)); have n7_ := Aside0.mk ((by rw [hg]; exact Nat.ne_of_lt (blk_lt (g := gb162) (o := .cells #[.int .i64 t166, .int .i64 t167] 23 (0, 0)) (by (with_reducible repeat (first | refine blk_drewN ?_ _ | refine blk_drew ?_ | refine blk_alloc ?_ _)); exact BK162.out)) : gb162 ≠ gb175)); have n8_ := Aside0.mk ((by rw [hg]; exact Nat.ne_of_gt (blk_lt (g := gb162) (o := .cells #[.int .i64 t166, .int .i64 t167] 23 (0, 0)) (by (with_reducible repeat (first | refine blk_drewN ?_ _ | refine blk_drew ?_ | refine blk_alloc ?_ _)); exact BK162.out)) : gb175 ≠ gb162)); have n9_ := Aside0.mk ((by rw [hg]; exact Nat.ne_of_lt (blk_lt (g := gb164) (o := .cells #[.int .u64 ((rd_T26 l0 x8_1).f0), .bool ((rd_T26 l0 x8_1).f1), .bool ((rd_T26 l0 x8_1).f2), .int .i64 ((rd_T26 l0 x8_1).f3)] 26 (0, 0)) (by (with_reducible repeat (first | refine blk_drewN ?_ _ | refine blk_drew ?_ | refine blk_alloc ?_ _)); exact BK164.out)) : gb164 ≠ gb175)); have n10_ := Aside0.mk ((by rw [hg]; exact Nat.ne_of_gt (blk_lt (g := gb164) (o := .cells #[.int .u64 ((rd_T26 l0 x8_1).f0), .bool ((rd_T26 l0 x8_1).f1), .bool ((rd_T26 l0 x8_1).f2), .int .i64 ((rd_T26 l0 x8_1).f3)] 26 (0, 0)) (by (with_reducible repeat (first | refine blk_drewN ?_ _ | refine blk_drew ?_ | refine blk_alloc ?_ _)); exact BK164.out)) : gb175 ≠ gb164)); have n11_ := Aside0.mk ((by rw [hg]; exact Nat.ne_of_lt (blk_lt (g := gb165) (o := .cells #[.int .i64 x163000_1, .int .i64 x163001_1] 23 (0, 0)) (by (with_reducible repeat (first | refine blk_drewN ?_ _ | refine blk_drew ?_ | refine blk_alloc ?_ _)); exact BK165.out)) : gb165 ≠ gb175)); have n12_ := Aside0.mk ((by rw [hg]; exact Nat.ne_of_gt (blk_lt (g := gb165) (o := .cells #[.int .i64 x163000_1, .int .i64 x163001_1] 23 (0, 0)) (by (with_reducible repeat (first | refine blk_drewN ?_ _ | refine blk_drew ?_ | refine blk_alloc ?_ _)); exact BK165.out)) : gb175 ≠ gb165)); clear BK162; clear BK164; clear BK165; clear HB; have BK162 := n0_; have BK164 := n1_; have BK165 := n2_; have HB := n3_; have BK175 := n4_; have GW175 := n5_; have GE175 := n6_; have NB162_175 := n7_; have NB175_162 := n8_; have NB164_175 := n9_; have NB175_164 := n10_; have NB165_175 := n11_; have NB175_165 := n12_; clear n0_ n1_ n2_ n3_ n4_ n5_ n6_ n7_ n8_ n9_ n10_ n11_ n12_; clear hb hbox hg; have hnb221 := NB175_162.out; have hnc221 := NB162_175.out; have hnb222 := NB175_164.out; have hnc222 := NB164_175.out; have hnb223 := NB175_165.out; have hnc223 := NB165_175.out; have hcz224_0 : w220.cell? ⟨gb175, 0, none⟩ = some (.int .i64 0) := (blk_cell BK175.out 0).trans rfl; have hcz224_1 : w220.cell? ⟨gb175, 1, none⟩ = some (.int .i64 0) := (blk_cell BK175.out 1).trans rfl; have hfz224_0 := blk_frozen BK175.out 0; have hfz224_1 := blk_frozen BK175.out 1; have hcz225_0 : w220.cell? ⟨gb164, 0, none⟩ = some (.int .u64 ((rd_T26 l0 x8_1).f0)) := (blk_cell BK164.out 0).trans rfl; have hcz225_1 : w220.cell? ⟨gb164, 1, none⟩ = some (.bool ((rd_T26 l0 x8_1).f1)) := (blk_cell BK164.out 1).trans rfl; have hcz225_2 : w220.cell? ⟨gb164, 2, none⟩ = some (.bool ((rd_T26 l0 x8_1).f2)) := (blk_cell BK164.out 2).trans rfl; have hcz225_3 : w220.cell? ⟨gb164, 3, none⟩ = some (.int .i64 ((rd_T26 l0 x8_1).f3)) := (blk_cell BK164.out 3).trans rfl; have hfz225_0 := blk_frozen BK164.out 0; have hfz225_1 := blk_frozen BK164.out 1; have hfz225_2 := blk_frozen BK164.out 2; have hfz225_3 := blk_frozen BK164.out 3) | (go_at_call 13; (with_reducible refine (order_Has.calls ((rd_T26 l0 x8_1).f0) ((rd_T26 l0 x8_1).f3) t176 _ A146.out).mono ?_); rintro e w' ⟨rfl, ⟨nd, rfl⟩⟩; have hcz226_0 : w220.cell? ⟨gb162, 0, none⟩ = some (.int .i64 t166) := (blk_cell BK162.out 0).trans rfl; have hcz226_1 : w220.cell? ⟨gb162, 1, none⟩ = some (.int .i64 t167) := (blk_cell BK162.out 1).trans rfl; have hfz226_0 := blk_frozen BK162.out 0; have hfz226_1 := blk_frozen BK162.out 1))
                                    go_roundg kj43
                                    case measure => have := HK1.out; have := HJ14.out; have := HJ43.out; omega
                                    case rel => exact ⟨(wrap64 (x8_1 + 1)), (t172), (t173), (by first | rfl | (simp; done) | (simp [*]; done)), H', ⟨by have := HK1.out; have := HJ14.out; have := HJ43.out; omega⟩, ⟨by (with_reducible repeat (first | refine blk_drewN ?_ _ | refine blk_drew ?_ | refine blk_alloc ?_ _)); refine blk_put (cs := #[.int .i64 t172, .int .i64 t167]) ?_ 1 _ rfl; (with_reducible repeat (first | refine blk_drewN ?_ _ | refine blk_drew ?_ | refine blk_alloc ?_ _)); refine blk_put (cs := #[.int .i64 t166, .int .i64 t167]) ?_ 0 _ rfl; (with_reducible repeat (first | refine blk_drewN ?_ _ | refine blk_drew ?_ | refine blk_alloc ?_ _)); refine blk_far ?_ NB162_175.out _; (with_reducible repeat (first | refine blk_drewN ?_ _ | refine blk_drew ?_ | refine blk_alloc ?_ _)); refine blk_far ?_ NB162_175.out _; (with_reducible repeat (first | refine blk_drewN ?_ _ | refine blk_drew ?_ | refine blk_alloc ?_ _)); exact BK162.out⟩, ⟨by repeat (first | (with_reducible first | exact HB.out | apply below_alloc | apply pw_below_drewN | apply below_drew1 | refine below_set ?_ GE162.out | refine below_set ?_ GE164.out | refine below_set ?_ GE165.out | refine below_set ?_ GE175.out) | exact HB.out)⟩⟩
                          · rw [if_neg c63] at H
                            have c63b0 : ((rd_T26 l0 x8_1).f2) = false := by simpa using c63
                            clear c63
                            have H' := Aside0.mk H
                            clear H
                            have hnb227 := NB164_162.out
                            have hnc227 := NB162_164.out
                            have hnb228 := NB164_165.out
                            have hnc228 := NB165_164.out
                            have hcz229_0 : wc.cell? ⟨gb164, 0, none⟩ = some (.int .u64 ((rd_T26 l0 x8_1).f0)) := (blk_cell BK164.out 0).trans rfl
                            have hcz229_1 : wc.cell? ⟨gb164, 1, none⟩ = some (.bool ((rd_T26 l0 x8_1).f1)) := (blk_cell BK164.out 1).trans rfl
                            have hcz229_2 : wc.cell? ⟨gb164, 2, none⟩ = some (.bool ((rd_T26 l0 x8_1).f2)) := (blk_cell BK164.out 2).trans rfl
                            have hcz229_3 : wc.cell? ⟨gb164, 3, none⟩ = some (.int .i64 ((rd_T26 l0 x8_1).f3)) := (blk_cell BK164.out 3).trans rfl
                            have hfz229_0 := blk_frozen BK164.out 0
                            have hfz229_1 := blk_frozen BK164.out 1
                            have hfz229_2 := blk_frozen BK164.out 2
                            have hfz229_3 := blk_frozen BK164.out 3
                            go_wp2
                            go_roundg kj43
                            case measure => have := HK1.out; have := HJ14.out; have := HJ43.out; omega
                            case rel => exact ⟨(wrap64 (x8_1 + 1)), (t166), (t167), (by first | rfl | (simp; done) | (simp [*]; done)), H', ⟨by have := HK1.out; have := HJ14.out; have := HJ43.out; omega⟩, ⟨by (with_reducible repeat (first | refine blk_drewN ?_ _ | refine blk_drew ?_ | refine blk_alloc ?_ _)); exact BK162.out⟩, ⟨by repeat (first | (with_reducible first | exact HB.out | apply below_alloc | apply pw_below_drewN | apply below_drew1 | refine below_set ?_ GE162.out | refine below_set ?_ GE164.out | refine below_set ?_ GE165.out) | exact HB.out)⟩⟩
            · rw [if_neg c13] at H
              exact absurd H (by simp)
          · rw [if_neg c12] at H
            have c12b0 : decide (x8_1 < (l0.length : Int)) = false := decide_eq_false c12
            clear c12
            obtain rfl := Option.some.inj H
            go_wp2
            go_ret
            exact ⟨by first | rfl | (simp [errW_none, errW_some] <;> rfl) | (simp [*, errW_none, errW_some] <;> rfl), by repeat (first | (with_reducible first | exact HB.out | apply below_alloc | apply pw_below_drewN | apply below_drew1 | refine below_set ?_ GE162.out) | exact HB.out)⟩
  · replace c4 := Bool.eq_false_iff.mpr c4
    subst c4
    have H1 : (some false) = some r := by rw [if_neg (show ¬ (false = true) by decide)] at H; exact H
    clear H
    have H := H1
    clear H1
    obtain rfl := Option.some.inj H
    go_enter Tryd.func4, Tryd.ntmps4
    go_wp2_with (first | ((with_reducible refine gate_callee (f := 7) rfl ?_); refine goesL_ (some 13) rfl rfl Tryd.func7 (by kernel_rfl) rfl #[] rfl (by (try simp only [List.map_toArray, List.map_cons, List.map_nil]); first | done | rfl | (simp only [List.length_drop, List.length_take]; rfl)) ?_; (with_reducible refine (paternosterlaw20_awake.calls  false _ A3.out ?sideL).mono ?_); (case sideL => exact laid_below LA.out (by repeat (first | (with_reducible first | exact HB.out | apply below_alloc | apply pw_below_drewN | apply below_drew1) | exact HB.out))); rintro e w230 ⟨rfl, hb⟩; refine ⟨_, rfl, ?_⟩; have n0_ := Aside0.mk (below_step (by repeat (first | (with_reducible first | exact HB.out | apply below_alloc | apply pw_below_drewN | apply below_drew1) | exact HB.out)) hb); clear HB; have HB := n0_; clear n0_; (try clear hb); (try clear hb2); (try clear hk); (try clear hi)))
    go_ret
    exact ⟨by first | rfl | (simp [errW_none, errW_some] <;> rfl) | (simp [*, errW_none, errW_some] <;> rfl), by repeat (first | (with_reducible first | exact HB.out | apply below_alloc | apply pw_below_drewN | apply below_drew1) | exact HB.out)⟩

end Go.Proofs.YtbaklgemdljmeaaDoor.X
