-- Written by a program of this session (wip/xprint/xprint.py runs the kit's print with hand-proved externs).
import Derived.Test.YtomaojmccchibaaXx0
import Derived.Test.YtomaojmccchibaaXx12
import Derived.Test.YtomaojmccchibaaXx8
import Derived.Test.YtomaojmccchibaaConfAwake
import Derived.Test.YtomaojmccchibaaConfCheck
namespace Go.Proofs.Ytomaojmccchibaa.X
open Go.RowKit Go.Proofs.YtomaojmccchibaaW.PrintWords Go.Proofs.YtomaojmccchibaaW.PrintLast Go.Proofs.YtomaojmccchibaaW.PrintMore
attribute [local go_sem] max2_int min2_int max_two min_two max_three min_three max_four min_four   -- for this text's walks alone
set_option linter.unusedVariables false
set_option linter.unusedSimpArgs false

/-! ### paternosterlaw05_ConfBanks: function 4 -/
mutual
def paternosterlaw05_ConfBanks.j0 : Nat → Bool → List (S38) → Int → Int → List Int → Int → Int → Int → Int → Int → Int → Int → Int → Int → Option (Bool)
  | 0, _, _, _, _, _, _, _, _, _, _, _, _, _, _ => none
  | k + 1, x20, x212000, x212001, x212002, x212003, x212004, x212005, x212006, x212007, x212008, x212009, x212010, x212011, x212012 => if x20 = true then (some true) else (paternosterlaw05_ConfBanks.l0 k 0 0 0 x212000 x212001 x212002 x212003 x212004 x212005 x212006 x212007 x212008 x212009 x212010 x212011 x212012)
def paternosterlaw05_ConfBanks.l0 : Nat → Int → Int → Int → List (S38) → Int → Int → List Int → Int → Int → Int → Int → Int → Int → Int → Int → Int → Option (Bool)
  | 0, _, _, _, _, _, _, _, _, _, _, _, _, _, _, _, _ => none
  | k + 1, x5, x6, x7, x212000, x212001, x212002, x212003, x212004, x212005, x212006, x212007, x212008, x212009, x212010, x212011, x212012 => (conf_Cars.f k x212000 x212001 x212002 x212003 x212004 x212005 x212006 x212007 x212008 x212009 x212010 x212011 x212012).bind fun t215 => (if x7 < t215 then ((conf_Conf_Bank.f k x212000 x212001 x212002 x212003 x212004 x212005 x212006 x212007 x212008 x212009 x212010 x212011 x212012 x7).bind fun t217 => (if t217 < x5 then (paternosterlaw05_ConfBanks.j2 k x5 x6 x7 t217 true x212000 x212001 x212002 x212003 x212004 x212005 x212006 x212007 x212008 x212009 x212010 x212011 x212012) else (if t217 > (wrap64 (x5 + 1)) then (paternosterlaw05_ConfBanks.j2 k x5 x6 x7 t217 true x212000 x212001 x212002 x212003 x212004 x212005 x212006 x212007 x212008 x212009 x212010 x212011 x212012) else (paternosterlaw05_ConfBanks.j2 k x5 x6 x7 t217 (decide (t217 ≥ (x212000.length : Int))) x212000 x212001 x212002 x212003 x212004 x212005 x212006 x212007 x212008 x212009 x212010 x212011 x212012)))) else (if x5 = (wrap64 ((x212000.length : Int) - 1)) then (if 0 ≤ x5 then (if x5 < (x212000.length : Int) then (some (x6 == ((rd_T38 x212000 x5).f0))) else (none)) else (none)) else (some false)))
def paternosterlaw05_ConfBanks.j2 : Nat → Int → Int → Int → Int → Bool → List (S38) → Int → Int → List Int → Int → Int → Int → Int → Int → Int → Int → Int → Int → Option (Bool)
  | 0, _, _, _, _, _, _, _, _, _, _, _, _, _, _, _, _, _, _ => none
  | k + 1, x5, x6, x7, x8, x45, x212000, x212001, x212002, x212003, x212004, x212005, x212006, x212007, x212008, x212009, x212010, x212011, x212012 => if x45 = true then (some false) else (if x8 = x5 then (paternosterlaw05_ConfBanks.l0 k x8 (wrap64 (x6 + 1)) (wrap64 (x7 + 1)) x212000 x212001 x212002 x212003 x212004 x212005 x212006 x212007 x212008 x212009 x212010 x212011 x212012) else (if 0 ≤ x5 then (if x5 < (x212000.length : Int) then (if x6 = ((rd_T38 x212000 x5).f0) then (paternosterlaw05_ConfBanks.l0 k x8 (0 + 1) (wrap64 (x7 + 1)) x212000 x212001 x212002 x212003 x212004 x212005 x212006 x212007 x212008 x212009 x212010 x212011 x212012) else (some false)) else (none)) else (none)))
end
def paternosterlaw05_ConfBanks.f (k : Nat) (l0_0 : List (S38)) (a0_1 : Int) (a0_2 : Int) (l0_3 : List Int) (a0_4 : Int) (a0_5 : Int) (a0_6 : Int) (a0_7 : Int) (a0_8 : Int) (a0_9 : Int) (a0_10 : Int) (a0_11 : Int) (a0_12 : Int) : Option (Bool) := (paternosterlaw05_awake.f).bind fun t212 => (if t212 = true then ((paternosterlaw05_small.f l0_0 a0_1 a0_2 l0_3 a0_4 a0_5 a0_6 a0_7 a0_8 a0_9 a0_10 a0_11 a0_12).bind fun t213 => (if t213 = true then ((conf_Check.f l0_0 a0_1 a0_2 l0_3 a0_4 a0_5 a0_6 a0_7 a0_8 a0_9 a0_10 a0_11 a0_12).bind fun t214 => (paternosterlaw05_ConfBanks.j0 k (!t214) l0_0 a0_1 a0_2 l0_3 a0_4 a0_5 a0_6 a0_7 a0_8 a0_9 a0_10 a0_11 a0_12)) else (paternosterlaw05_ConfBanks.j0 k true l0_0 a0_1 a0_2 l0_3 a0_4 a0_5 a0_6 a0_7 a0_8 a0_9 a0_10 a0_11 a0_12))) else (some false))
theorem paternosterlaw05_ConfBanks.mono_l : ∀ k, (∀ y0 y1 y2 y3 y4 y5 y6 y7 y8 y9 y10 y11 y12 y13, LeO (paternosterlaw05_ConfBanks.j0 k y0 y1 y2 y3 y4 y5 y6 y7 y8 y9 y10 y11 y12 y13) (paternosterlaw05_ConfBanks.j0 (k + 1) y0 y1 y2 y3 y4 y5 y6 y7 y8 y9 y10 y11 y12 y13)) ∧ (∀ y0 y1 y2 y3 y4 y5 y6 y7 y8 y9 y10 y11 y12 y13 y14 y15, LeO (paternosterlaw05_ConfBanks.l0 k y0 y1 y2 y3 y4 y5 y6 y7 y8 y9 y10 y11 y12 y13 y14 y15) (paternosterlaw05_ConfBanks.l0 (k + 1) y0 y1 y2 y3 y4 y5 y6 y7 y8 y9 y10 y11 y12 y13 y14 y15)) ∧ (∀ y0 y1 y2 y3 y4 y5 y6 y7 y8 y9 y10 y11 y12 y13 y14 y15 y16 y17, LeO (paternosterlaw05_ConfBanks.j2 k y0 y1 y2 y3 y4 y5 y6 y7 y8 y9 y10 y11 y12 y13 y14 y15 y16 y17) (paternosterlaw05_ConfBanks.j2 (k + 1) y0 y1 y2 y3 y4 y5 y6 y7 y8 y9 y10 y11 y12 y13 y14 y15 y16 y17))
  | 0 => ⟨fun _ _ _ _ _ _ _ _ _ _ _ _ _ _ r h => by simp [paternosterlaw05_ConfBanks.j0] at h, fun _ _ _ _ _ _ _ _ _ _ _ _ _ _ _ _ r h => by simp [paternosterlaw05_ConfBanks.l0] at h, fun _ _ _ _ _ _ _ _ _ _ _ _ _ _ _ _ _ _ r h => by simp [paternosterlaw05_ConfBanks.j2] at h⟩
  | k + 1 => by
    obtain ⟨ih0, ih1, ih2⟩ := paternosterlaw05_ConfBanks.mono_l k
    refine ⟨?_, ?_, ?_⟩
    · intro y0 y1 y2 y3 y4 y5 y6 y7 y8 y9 y10 y11 y12 y13
      unfold paternosterlaw05_ConfBanks.j0
      repeat' first
      | (with_reducible exact ih0 _ _ _ _ _ _ _ _ _ _ _ _ _ _)
      | (with_reducible exact ih1 _ _ _ _ _ _ _ _ _ _ _ _ _ _ _ _)
      | (with_reducible exact ih2 _ _ _ _ _ _ _ _ _ _ _ _ _ _ _ _ _ _)
      | (with_reducible exact conf_Cars.mono _ _ _ _ _ _ _ _ _ _ _ _ _ _)
      | (with_reducible exact conf_Conf_Bank.mono _ _ _ _ _ _ _ _ _ _ _ _ _ _ _)
      | (with_reducible exact LeO.refl _)
      | (with_reducible exact LeO.none _)
      | (with_reducible refine LeO.ite ?_ ?_)
      | (with_reducible refine LeO.bind ?_ (fun _ => ?_))
      | exact ih0 _ _ _ _ _ _ _ _ _ _ _ _ _ _
      | exact ih1 _ _ _ _ _ _ _ _ _ _ _ _ _ _ _ _
      | exact ih2 _ _ _ _ _ _ _ _ _ _ _ _ _ _ _ _ _ _
      | exact conf_Cars.mono _ _ _ _ _ _ _ _ _ _ _ _ _ _
      | exact conf_Conf_Bank.mono _ _ _ _ _ _ _ _ _ _ _ _ _ _ _
      | exact LeO.none _
      | refine LeO.ite ?_ ?_
      | refine LeO.bind ?_ (fun _ => ?_)
    · intro y0 y1 y2 y3 y4 y5 y6 y7 y8 y9 y10 y11 y12 y13 y14 y15
      unfold paternosterlaw05_ConfBanks.l0
      repeat' first
      | (with_reducible exact ih0 _ _ _ _ _ _ _ _ _ _ _ _ _ _)
      | (with_reducible exact ih1 _ _ _ _ _ _ _ _ _ _ _ _ _ _ _ _)
      | (with_reducible exact ih2 _ _ _ _ _ _ _ _ _ _ _ _ _ _ _ _ _ _)
      | (with_reducible exact conf_Cars.mono _ _ _ _ _ _ _ _ _ _ _ _ _ _)
      | (with_reducible exact conf_Conf_Bank.mono _ _ _ _ _ _ _ _ _ _ _ _ _ _ _)
      | (with_reducible exact LeO.refl _)
      | (with_reducible exact LeO.none _)
      | (with_reducible refine LeO.ite ?_ ?_)
      | (with_reducible refine LeO.bind ?_ (fun _ => ?_))
      | exact ih0 _ _ _ _ _ _ _ _ _ _ _ _ _ _
      | exact ih1 _ _ _ _ _ _ _ _ _ _ _ _ _ _ _ _
      | exact ih2 _ _ _ _ _ _ _ _ _ _ _ _ _ _ _ _ _ _
      | exact conf_Cars.mono _ _ _ _ _ _ _ _ _ _ _ _ _ _
      | exact conf_Conf_Bank.mono _ _ _ _ _ _ _ _ _ _ _ _ _ _ _
      | exact LeO.none _
      | refine LeO.ite ?_ ?_
      | refine LeO.bind ?_ (fun _ => ?_)
    · intro y0 y1 y2 y3 y4 y5 y6 y7 y8 y9 y10 y11 y12 y13 y14 y15 y16 y17
      unfold paternosterlaw05_ConfBanks.j2
      repeat' first
      | (with_reducible exact ih0 _ _ _ _ _ _ _ _ _ _ _ _ _ _)
      | (with_reducible exact ih1 _ _ _ _ _ _ _ _ _ _ _ _ _ _ _ _)
      | (with_reducible exact ih2 _ _ _ _ _ _ _ _ _ _ _ _ _ _ _ _ _ _)
      | (with_reducible exact conf_Cars.mono _ _ _ _ _ _ _ _ _ _ _ _ _ _)
      | (with_reducible exact conf_Conf_Bank.mono _ _ _ _ _ _ _ _ _ _ _ _ _ _ _)
      | (with_reducible exact LeO.refl _)
      | (with_reducible exact LeO.none _)
      | (with_reducible refine LeO.ite ?_ ?_)
      | (with_reducible refine LeO.bind ?_ (fun _ => ?_))
      | exact ih0 _ _ _ _ _ _ _ _ _ _ _ _ _ _
      | exact ih1 _ _ _ _ _ _ _ _ _ _ _ _ _ _ _ _
      | exact ih2 _ _ _ _ _ _ _ _ _ _ _ _ _ _ _ _ _ _
      | exact conf_Cars.mono _ _ _ _ _ _ _ _ _ _ _ _ _ _
      | exact conf_Conf_Bank.mono _ _ _ _ _ _ _ _ _ _ _ _ _ _ _
      | exact LeO.none _
      | refine LeO.ite ?_ ?_
      | refine LeO.bind ?_ (fun _ => ?_)
theorem paternosterlaw05_ConfBanks.mono : ∀ a0 a1 a2 a3 a4 a5 a6 a7 a8 a9 a10 a11 a12 k, LeO (paternosterlaw05_ConfBanks.f k a0 a1 a2 a3 a4 a5 a6 a7 a8 a9 a10 a11 a12) (paternosterlaw05_ConfBanks.f (k + 1) a0 a1 a2 a3 a4 a5 a6 a7 a8 a9 a10 a11 a12) := by
  intro a0 a1 a2 a3 a4 a5 a6 a7 a8 a9 a10 a11 a12 k
  obtain ⟨ih0, ih1, ih2⟩ := paternosterlaw05_ConfBanks.mono_l k
  unfold paternosterlaw05_ConfBanks.f
  repeat' first
      | (with_reducible exact ih0 _ _ _ _ _ _ _ _ _ _ _ _ _ _)
      | (with_reducible exact ih1 _ _ _ _ _ _ _ _ _ _ _ _ _ _ _ _)
      | (with_reducible exact ih2 _ _ _ _ _ _ _ _ _ _ _ _ _ _ _ _ _ _)
      | (with_reducible exact conf_Cars.mono _ _ _ _ _ _ _ _ _ _ _ _ _ _)
      | (with_reducible exact conf_Conf_Bank.mono _ _ _ _ _ _ _ _ _ _ _ _ _ _ _)
      | (with_reducible exact LeO.refl _)
      | (with_reducible exact LeO.none _)
      | (with_reducible refine LeO.ite ?_ ?_)
      | (with_reducible refine LeO.bind ?_ (fun _ => ?_))
      | exact ih0 _ _ _ _ _ _ _ _ _ _ _ _ _ _
      | exact ih1 _ _ _ _ _ _ _ _ _ _ _ _ _ _ _ _
      | exact ih2 _ _ _ _ _ _ _ _ _ _ _ _ _ _ _ _ _ _
      | exact conf_Cars.mono _ _ _ _ _ _ _ _ _ _ _ _ _ _
      | exact conf_Conf_Bank.mono _ _ _ _ _ _ _ _ _ _ _ _ _ _ _
      | exact LeO.none _
      | refine LeO.ite ?_ ?_
      | refine LeO.bind ?_ (fun _ => ?_)
set_option maxHeartbeats 8000000 in
set_option maxRecDepth 100000 in
theorem paternosterlaw05_ConfBanks.calls (k : Nat) (A0_0 : Option Addr) (c0_0 : Nat) (l0_0 : List (S38)) (a0_1 : Int) (a0_2 : Int) (A0_3 : Option Addr) (c0_3 : Nat) (l0_3 : List Int) (a0_4 : Int) (a0_5 : Int) (a0_6 : Int) (a0_7 : Int) (a0_8 : Int) (a0_9 : Int) (a0_10 : Int) (a0_11 : Int) (a0_12 : Int) (r : Bool) (w : World) (hr0_0 : Kd.C k38 w A0_0 l0_0.length l0_0) (hc0_0 : l0_0.length ≤ c0_0) (hr0_3 : Kd.C (Kd.int .i64) w A0_3 l0_3.length l0_3) (hc0_3 : l0_3.length ≤ c0_3) (h : paternosterlaw05_ConfBanks.f k l0_0 a0_1 a0_2 l0_3 a0_4 a0_5 a0_6 a0_7 a0_8 a0_9 a0_10 a0_11 a0_12 = some r) :
    Calls Try.prog 4 #[.agg #[.slice A0_0 l0_0.length c0_0, .int .i64 a0_1, .int .i64 a0_2, .slice A0_3 l0_3.length c0_3, .int .i64 a0_4, .int .i64 a0_5, .int .i64 a0_6, .int .i64 a0_7, .int .i64 a0_8, .int .i64 a0_9, .int .i64 a0_10, .int .i64 a0_11, .int .i64 a0_12]] w fun e w' => e = .returned (.bool r) ∧ Below w.heap.size w w' := by
  have hu25 := Try.underlying25
  have HR0_0 := Aside0.mk hr0_0
  have HC0_0 := Aside0.mk hc0_0
  clear hr0_0 hc0_0
  have HR0_3 := Aside0.mk hr0_3
  have HC0_3 := Aside0.mk hc0_3
  clear hr0_3 hc0_3
  have HB := Aside0.mk (Below.refl w.heap.size w)
  have H : ((paternosterlaw05_awake.f).bind fun t212 => (if t212 = true then ((paternosterlaw05_small.f l0_0 a0_1 a0_2 l0_3 a0_4 a0_5 a0_6 a0_7 a0_8 a0_9 a0_10 a0_11 a0_12).bind fun t213 => (if t213 = true then ((conf_Check.f l0_0 a0_1 a0_2 l0_3 a0_4 a0_5 a0_6 a0_7 a0_8 a0_9 a0_10 a0_11 a0_12).bind fun t214 => (paternosterlaw05_ConfBanks.j0 k (!t214) l0_0 a0_1 a0_2 l0_3 a0_4 a0_5 a0_6 a0_7 a0_8 a0_9 a0_10 a0_11 a0_12)) else (paternosterlaw05_ConfBanks.j0 k true l0_0 a0_1 a0_2 l0_3 a0_4 a0_5 a0_6 a0_7 a0_8 a0_9 a0_10 a0_11 a0_12))) else (some false))) = some r := h
  clear h
  replace H := Option.bind_eq_some_iff.mp H
  obtain ⟨t212, A20, H⟩ := H
  replace H : (if t212 = true then ((paternosterlaw05_small.f l0_0 a0_1 a0_2 l0_3 a0_4 a0_5 a0_6 a0_7 a0_8 a0_9 a0_10 a0_11 a0_12).bind fun t213 => (if t213 = true then ((conf_Check.f l0_0 a0_1 a0_2 l0_3 a0_4 a0_5 a0_6 a0_7 a0_8 a0_9 a0_10 a0_11 a0_12).bind fun t214 => (paternosterlaw05_ConfBanks.j0 k (!t214) l0_0 a0_1 a0_2 l0_3 a0_4 a0_5 a0_6 a0_7 a0_8 a0_9 a0_10 a0_11 a0_12)) else (paternosterlaw05_ConfBanks.j0 k true l0_0 a0_1 a0_2 l0_3 a0_4 a0_5 a0_6 a0_7 a0_8 a0_9 a0_10 a0_11 a0_12))) else (some false)) = some r := H
  have A2 := Aside0.mk A20
  clear A20
  by_cases c3 : t212 = true
  · subst c3
    have H1 : ((paternosterlaw05_small.f l0_0 a0_1 a0_2 l0_3 a0_4 a0_5 a0_6 a0_7 a0_8 a0_9 a0_10 a0_11 a0_12).bind fun t213 => (if t213 = true then ((conf_Check.f l0_0 a0_1 a0_2 l0_3 a0_4 a0_5 a0_6 a0_7 a0_8 a0_9 a0_10 a0_11 a0_12).bind fun t214 => (paternosterlaw05_ConfBanks.j0 k (!t214) l0_0 a0_1 a0_2 l0_3 a0_4 a0_5 a0_6 a0_7 a0_8 a0_9 a0_10 a0_11 a0_12)) else (paternosterlaw05_ConfBanks.j0 k true l0_0 a0_1 a0_2 l0_3 a0_4 a0_5 a0_6 a0_7 a0_8 a0_9 a0_10 a0_11 a0_12))) = some r := by rw [if_pos rfl] at H; exact H
    clear H
    have H := H1
    clear H1
    replace H := Option.bind_eq_some_iff.mp H
    obtain ⟨t213, A40, H⟩ := H
    replace H : (if t213 = true then ((conf_Check.f l0_0 a0_1 a0_2 l0_3 a0_4 a0_5 a0_6 a0_7 a0_8 a0_9 a0_10 a0_11 a0_12).bind fun t214 => (paternosterlaw05_ConfBanks.j0 k (!t214) l0_0 a0_1 a0_2 l0_3 a0_4 a0_5 a0_6 a0_7 a0_8 a0_9 a0_10 a0_11 a0_12)) else (paternosterlaw05_ConfBanks.j0 k true l0_0 a0_1 a0_2 l0_3 a0_4 a0_5 a0_6 a0_7 a0_8 a0_9 a0_10 a0_11 a0_12)) = some r := H
    have A4 := Aside0.mk A40
    clear A40
    have HC5 := Aside0.mk H
    clear H
    go_enter Try.func4, Try.ntmps4
    go_upto_region 5 with (first | ((with_reducible refine gate_dst (N := 1) rfl ?_); (try (refine gate_guard (by rfl) ?_; dsimp only)); refine box_event ?hg (N := 1) ?hd (cs := #[.slice A0_0 l0_0.length c0_0, .int .i64 a0_1, .int .i64 a0_2, .slice A0_3 l0_3.length c0_3, .int .i64 a0_4, .int .i64 a0_5, .int .i64 a0_6, .int .i64 a0_7, .int .i64 a0_8, .int .i64 a0_9, .int .i64 a0_10, .int .i64 a0_11, .int .i64 a0_12]) (t := 25) ?hr ?_; (case hd => rfl); (case hg => rfl); (case hr => first | (go_simp; done) | (go_simp; rfl)); intro gb211 hg w6 hbox hb; have n0_ := Aside0.mk (below_step (by repeat (first | (with_reducible first | exact HB.out | apply below_alloc | apply pw_below_drewN | apply below_drew1) | exact HB.out)) hb); have n1_ := Aside0.mk (hbox); have n2_ := Aside0.mk ((by rw [hg]; exact (below_size (by repeat (first | (with_reducible first | exact HB.out | apply below_alloc | apply pw_below_drewN | apply below_drew1) | exact HB.out))) : w.heap.size ≤ gb211)); have n3_ := Aside0.mk ((by rw [hg]; exact (below_size (by repeat (first | (with_reducible first | exact HB.out | apply below_alloc | apply pw_below_drewN | apply below_drew1) | exact HB.out))) : w.heap.size ≤ gb211)); clear HB; have HB := n0_; have BK211 := n1_; have GW211 := n2_; have GE211 := n3_; clear n0_ n1_ n2_ n3_; clear hb hbox hg) | ((with_reducible refine gate_callee (f := 17) rfl ?_); refine goesL_ (some 9) rfl rfl Try.func17 (by kernel_rfl) rfl #[] rfl (by (try simp only [List.map_toArray, List.map_cons, List.map_nil]); first | done | rfl | (simp only [List.length_drop, List.length_take]; rfl)) ?_; (with_reducible refine (paternosterlaw05_awake.calls  true _ A2.out).mono ?_); rintro e w7 ⟨rfl, hb⟩; refine ⟨_, rfl, ?_⟩; have n0_ := Aside0.mk (blk_below (g := gb211) (o := .cells #[.slice A0_0 l0_0.length c0_0, .int .i64 a0_1, .int .i64 a0_2, .slice A0_3 l0_3.length c0_3, .int .i64 a0_4, .int .i64 a0_5, .int .i64 a0_6, .int .i64 a0_7, .int .i64 a0_8, .int .i64 a0_9, .int .i64 a0_10, .int .i64 a0_11, .int .i64 a0_12] 25 (0, 0)) (by (with_reducible repeat (first | refine blk_drewN ?_ _ | refine blk_drew ?_ | refine blk_alloc ?_ _)); exact BK211.out) hb); have n1_ := Aside0.mk (below_step (by repeat (first | (with_reducible first | exact HB.out | apply below_alloc | apply pw_below_drewN | apply below_drew1 | refine below_set ?_ GE211.out) | exact HB.out)) hb); clear BK211; clear HB; have BK211 := n0_; have HB := n1_; clear n0_ n1_; (try clear hb); (try clear hb2); (try clear hk); (try clear hi); have hcz8_0 : w7.cell? ⟨gb211, 0, none⟩ = some (.slice A0_0 l0_0.length c0_0) := (blk_cell BK211.out 0).trans rfl; have hcz8_1 : w7.cell? ⟨gb211, 1, none⟩ = some (.int .i64 a0_1) := (blk_cell BK211.out 1).trans rfl; have hcz8_2 : w7.cell? ⟨gb211, 2, none⟩ = some (.int .i64 a0_2) := (blk_cell BK211.out 2).trans rfl; have hcz8_3 : w7.cell? ⟨gb211, 3, none⟩ = some (.slice A0_3 l0_3.length c0_3) := (blk_cell BK211.out 3).trans rfl; have hcz8_4 : w7.cell? ⟨gb211, 4, none⟩ = some (.int .i64 a0_4) := (blk_cell BK211.out 4).trans rfl; have hcz8_5 : w7.cell? ⟨gb211, 5, none⟩ = some (.int .i64 a0_5) := (blk_cell BK211.out 5).trans rfl; have hcz8_6 : w7.cell? ⟨gb211, 6, none⟩ = some (.int .i64 a0_6) := (blk_cell BK211.out 6).trans rfl; have hcz8_7 : w7.cell? ⟨gb211, 7, none⟩ = some (.int .i64 a0_7) := (blk_cell BK211.out 7).trans rfl; have hcz8_8 : w7.cell? ⟨gb211, 8, none⟩ = some (.int .i64 a0_8) := (blk_cell BK211.out 8).trans rfl; have hcz8_9 : w7.cell? ⟨gb211, 9, none⟩ = some (.int .i64 a0_9) := (blk_cell BK211.out 9).trans rfl; have hcz8_10 : w7.cell? ⟨gb211, 10, none⟩ = some (.int .i64 a0_10) := (blk_cell BK211.out 10).trans rfl; have hcz8_11 : w7.cell? ⟨gb211, 11, none⟩ = some (.int .i64 a0_11) := (blk_cell BK211.out 11).trans rfl; have hcz8_12 : w7.cell? ⟨gb211, 12, none⟩ = some (.int .i64 a0_12) := (blk_cell BK211.out 12).trans rfl; have hfz8_0 := blk_frozen BK211.out 0; have hfz8_1 := blk_frozen BK211.out 1; have hfz8_2 := blk_frozen BK211.out 2; have hfz8_3 := blk_frozen BK211.out 3; have hfz8_4 := blk_frozen BK211.out 4; have hfz8_5 := blk_frozen BK211.out 5; have hfz8_6 := blk_frozen BK211.out 6; have hfz8_7 := blk_frozen BK211.out 7; have hfz8_8 := blk_frozen BK211.out 8; have hfz8_9 := blk_frozen BK211.out 9; have hfz8_10 := blk_frozen BK211.out 10; have hfz8_11 := blk_frozen BK211.out 11; have hfz8_12 := blk_frozen BK211.out 12) | ((with_reducible refine gate_callee (f := 18) rfl ?_); refine goesL_ (some 13) rfl rfl Try.func18 (by kernel_rfl) rfl #[.agg #[.slice A0_0 l0_0.length c0_0, .int .i64 a0_1, .int .i64 a0_2, .slice A0_3 l0_3.length c0_3, .int .i64 a0_4, .int .i64 a0_5, .int .i64 a0_6, .int .i64 a0_7, .int .i64 a0_8, .int .i64 a0_9, .int .i64 a0_10, .int .i64 a0_11, .int .i64 a0_12]] rfl (by (try simp only [List.map_toArray, List.map_cons, List.map_nil]); first | done | rfl | (simp only [List.length_drop, List.length_take]; rfl)) ?_; (with_reducible refine (paternosterlaw05_small.calls _ _ l0_0 a0_1 a0_2 _ _ l0_3 a0_4 a0_5 a0_6 a0_7 a0_8 a0_9 a0_10 a0_11 a0_12 t213 _ ?side1 ?side2 ?side3 ?side4 A4.out).mono ?_); (case side1 => repeat (first | exact (Kd.C_below HR0_0.out HB.out) | (with_reducible refine Kd.C_alloc ?_ _) | (with_reducible refine Kd.C_drewN ?_ _) | (with_reducible refine Kd.C_drew ?_))); (case side2 => exact HC0_0.out); (case side3 => repeat (first | exact (Kd.C_below HR0_3.out HB.out) | (with_reducible refine Kd.C_alloc ?_ _) | (with_reducible refine Kd.C_drewN ?_ _) | (with_reducible refine Kd.C_drew ?_))); (case side4 => exact HC0_3.out); rintro e w9 ⟨rfl, hb⟩; refine ⟨_, rfl, ?_⟩; have n0_ := Aside0.mk (blk_below (g := gb211) (o := .cells #[.slice A0_0 l0_0.length c0_0, .int .i64 a0_1, .int .i64 a0_2, .slice A0_3 l0_3.length c0_3, .int .i64 a0_4, .int .i64 a0_5, .int .i64 a0_6, .int .i64 a0_7, .int .i64 a0_8, .int .i64 a0_9, .int .i64 a0_10, .int .i64 a0_11, .int .i64 a0_12] 25 (0, 0)) (by (with_reducible repeat (first | refine blk_drewN ?_ _ | refine blk_drew ?_ | refine blk_alloc ?_ _)); exact BK211.out) hb); have n1_ := Aside0.mk (below_step (by repeat (first | (with_reducible first | exact HB.out | apply below_alloc | apply pw_below_drewN | apply below_drew1 | refine below_set ?_ GE211.out) | exact HB.out)) hb); clear BK211; clear HB; have BK211 := n0_; have HB := n1_; clear n0_ n1_; (try clear hb); (try clear hb2); (try clear hk); (try clear hi)))
    (try simp only [Act.put, List.setIfInBounds_toArray, List.set_cons_zero, List.set_cons_succ])
    go_cut [20] (fun v20 wc => ∃ (kq : Nat) (x20_4 : Bool), v20 = .bool x20_4 ∧ Aside0 (paternosterlaw05_ConfBanks.j0 kq x20_4 l0_0 a0_1 a0_2 l0_3 a0_4 a0_5 a0_6 a0_7 a0_8 a0_9 a0_10 a0_11 a0_12 = some r) ∧ Aside0 (kq ≤ k) ∧ Aside0 (wc.heap[gb211]? = some (.cells #[(.slice A0_0 l0_0.length c0_0), .int .i64 a0_1, .int .i64 a0_2, (.slice A0_3 l0_3.length c0_3), .int .i64 a0_4, .int .i64 a0_5, .int .i64 a0_6, .int .i64 a0_7, .int .i64 a0_8, .int .i64 a0_9, .int .i64 a0_10, .int .i64 a0_11, .int .i64 a0_12] 25 (0, 0))) ∧ Aside0 (Below w.heap.size w wc))
    case first =>
      have H := HC5.out
      clear HC5
      by_cases c10 : t213 = true
      · subst c10
        have H1 : ((conf_Check.f l0_0 a0_1 a0_2 l0_3 a0_4 a0_5 a0_6 a0_7 a0_8 a0_9 a0_10 a0_11 a0_12).bind fun t214 => (paternosterlaw05_ConfBanks.j0 k (!t214) l0_0 a0_1 a0_2 l0_3 a0_4 a0_5 a0_6 a0_7 a0_8 a0_9 a0_10 a0_11 a0_12)) = some r := by rw [if_pos rfl] at H; exact H
        clear H
        have H := H1
        clear H1
        replace H := Option.bind_eq_some_iff.mp H
        obtain ⟨t214, A110, H⟩ := H
        replace H : (paternosterlaw05_ConfBanks.j0 k (!t214) l0_0 a0_1 a0_2 l0_3 a0_4 a0_5 a0_6 a0_7 a0_8 a0_9 a0_10 a0_11 a0_12) = some r := H
        have A11 := Aside0.mk A110
        clear A110
        have H' := Aside0.mk H
        clear H
        have hcz12_0 : w9.cell? ⟨gb211, 0, none⟩ = some (.slice A0_0 l0_0.length c0_0) := (blk_cell BK211.out 0).trans rfl
        have hcz12_1 : w9.cell? ⟨gb211, 1, none⟩ = some (.int .i64 a0_1) := (blk_cell BK211.out 1).trans rfl
        have hcz12_2 : w9.cell? ⟨gb211, 2, none⟩ = some (.int .i64 a0_2) := (blk_cell BK211.out 2).trans rfl
        have hcz12_3 : w9.cell? ⟨gb211, 3, none⟩ = some (.slice A0_3 l0_3.length c0_3) := (blk_cell BK211.out 3).trans rfl
        have hcz12_4 : w9.cell? ⟨gb211, 4, none⟩ = some (.int .i64 a0_4) := (blk_cell BK211.out 4).trans rfl
        have hcz12_5 : w9.cell? ⟨gb211, 5, none⟩ = some (.int .i64 a0_5) := (blk_cell BK211.out 5).trans rfl
        have hcz12_6 : w9.cell? ⟨gb211, 6, none⟩ = some (.int .i64 a0_6) := (blk_cell BK211.out 6).trans rfl
        have hcz12_7 : w9.cell? ⟨gb211, 7, none⟩ = some (.int .i64 a0_7) := (blk_cell BK211.out 7).trans rfl
        have hcz12_8 : w9.cell? ⟨gb211, 8, none⟩ = some (.int .i64 a0_8) := (blk_cell BK211.out 8).trans rfl
        have hcz12_9 : w9.cell? ⟨gb211, 9, none⟩ = some (.int .i64 a0_9) := (blk_cell BK211.out 9).trans rfl
        have hcz12_10 : w9.cell? ⟨gb211, 10, none⟩ = some (.int .i64 a0_10) := (blk_cell BK211.out 10).trans rfl
        have hcz12_11 : w9.cell? ⟨gb211, 11, none⟩ = some (.int .i64 a0_11) := (blk_cell BK211.out 11).trans rfl
        have hcz12_12 : w9.cell? ⟨gb211, 12, none⟩ = some (.int .i64 a0_12) := (blk_cell BK211.out 12).trans rfl
        have hfz12_0 := blk_frozen BK211.out 0
        have hfz12_1 := blk_frozen BK211.out 1
        have hfz12_2 := blk_frozen BK211.out 2
        have hfz12_3 := blk_frozen BK211.out 3
        have hfz12_4 := blk_frozen BK211.out 4
        have hfz12_5 := blk_frozen BK211.out 5
        have hfz12_6 := blk_frozen BK211.out 6
        have hfz12_7 := blk_frozen BK211.out 7
        have hfz12_8 := blk_frozen BK211.out 8
        have hfz12_9 := blk_frozen BK211.out 9
        have hfz12_10 := blk_frozen BK211.out 10
        have hfz12_11 := blk_frozen BK211.out 11
        have hfz12_12 := blk_frozen BK211.out 12
        go_wp2_with (first | (go_at_call 19; (with_reducible refine (conf_Check.calls _ _ l0_0 a0_1 a0_2 _ _ l0_3 a0_4 a0_5 a0_6 a0_7 a0_8 a0_9 a0_10 a0_11 a0_12 t214 _ ?side1 ?side2 ?side3 ?side4 A11.out).mono ?_); (case side1 => repeat (first | exact (Kd.C_below HR0_0.out HB.out) | (with_reducible refine Kd.C_alloc ?_ _) | (with_reducible refine Kd.C_drewN ?_ _) | (with_reducible refine Kd.C_drew ?_))); (case side2 => exact HC0_0.out); (case side3 => repeat (first | exact (Kd.C_below HR0_3.out HB.out) | (with_reducible refine Kd.C_alloc ?_ _) | (with_reducible refine Kd.C_drewN ?_ _) | (with_reducible refine Kd.C_drew ?_))); (case side4 => exact HC0_3.out); rintro e w13 ⟨rfl, hb⟩; have n0_ := Aside0.mk (blk_below (g := gb211) (o := .cells #[.slice A0_0 l0_0.length c0_0, .int .i64 a0_1, .int .i64 a0_2, .slice A0_3 l0_3.length c0_3, .int .i64 a0_4, .int .i64 a0_5, .int .i64 a0_6, .int .i64 a0_7, .int .i64 a0_8, .int .i64 a0_9, .int .i64 a0_10, .int .i64 a0_11, .int .i64 a0_12] 25 (0, 0)) (by (with_reducible repeat (first | refine blk_drewN ?_ _ | refine blk_drew ?_ | refine blk_alloc ?_ _)); exact BK211.out) hb); have n1_ := Aside0.mk (below_step (by repeat (first | (with_reducible first | exact HB.out | apply below_alloc | apply pw_below_drewN | apply below_drew1 | refine below_set ?_ GE211.out) | exact HB.out)) hb); clear BK211; clear HB; have BK211 := n0_; have HB := n1_; clear n0_ n1_; (try clear hb); (try clear hb2); (try clear hk); (try clear hi)))
        go_meet
        case rel => exact ⟨_, (!t214), (by first | rfl | (simp; done) | (simp [*]; done)), H', ⟨by first | omega | exact Nat.le_refl _⟩, ⟨by (with_reducible repeat (first | refine blk_drewN ?_ _ | refine blk_drew ?_ | refine blk_alloc ?_ _)); exact BK211.out⟩, ⟨by repeat (first | (with_reducible first | exact HB.out | apply below_alloc | apply pw_below_drewN | apply below_drew1 | refine below_set ?_ GE211.out) | exact HB.out)⟩⟩
      · replace c10 := Bool.eq_false_iff.mpr c10
        subst c10
        have H1 : (paternosterlaw05_ConfBanks.j0 k true l0_0 a0_1 a0_2 l0_3 a0_4 a0_5 a0_6 a0_7 a0_8 a0_9 a0_10 a0_11 a0_12) = some r := by rw [if_neg (show ¬ (false = true) by decide)] at H; exact H
        clear H
        have H := H1
        clear H1
        have H' := Aside0.mk H
        clear H
        go_wp2
        go_meet
        case rel => exact ⟨_, (true), (by first | rfl | (simp; done) | (simp [*]; done)), H', ⟨by first | omega | exact Nat.le_refl _⟩, ⟨by (with_reducible repeat (first | refine blk_drewN ?_ _ | refine blk_drew ?_ | refine blk_alloc ?_ _)); exact BK211.out⟩, ⟨by repeat (first | (with_reducible first | exact HB.out | apply below_alloc | apply pw_below_drewN | apply below_drew1 | refine below_set ?_ GE211.out) | exact HB.out)⟩⟩
    case rest =>
      clear HC5
      try clear c1
      try clear p2
      try clear c3
      try clear c4
      try clear c10
      try clear hcz12_0
      try clear hcz12_1
      try clear hcz12_10
      try clear hcz12_11
      try clear hcz12_12
      try clear hcz12_2
      try clear hcz12_3
      try clear hcz12_4
      try clear hcz12_5
      try clear hcz12_6
      try clear hcz12_7
      try clear hcz12_8
      try clear hcz12_9
      try clear hcz8_0
      try clear hcz8_1
      try clear hcz8_10
      try clear hcz8_11
      try clear hcz8_12
      try clear hcz8_2
      try clear hcz8_3
      try clear hcz8_4
      try clear hcz8_5
      try clear hcz8_6
      try clear hcz8_7
      try clear hcz8_8
      try clear hcz8_9
      try clear hfz12_0
      try clear hfz12_1
      try clear hfz12_10
      try clear hfz12_11
      try clear hfz12_12
      try clear hfz12_2
      try clear hfz12_3
      try clear hfz12_4
      try clear hfz12_5
      try clear hfz12_6
      try clear hfz12_7
      try clear hfz12_8
      try clear hfz12_9
      try clear hfz8_0
      try clear hfz8_1
      try clear hfz8_10
      try clear hfz8_11
      try clear hfz8_12
      try clear hfz8_2
      try clear hfz8_3
      try clear hfz8_4
      try clear hfz8_5
      try clear hfz8_6
      try clear hfz8_7
      try clear hfz8_8
      try clear hfz8_9
      obtain ⟨kq, x20_4, rfl, HA, HJ4, BK211, HB⟩ := hcut
      cases kq with
      | zero => exact absurd HA.out (by simp [paternosterlaw05_ConfBanks.j0])
      | succ kj4 =>
        have H := HA.out
        clear HA
        simp only [paternosterlaw05_ConfBanks.j0] at H
        by_cases c14 : x20_4 = true
        · subst c14
          have H1 : (some true) = some r := by rw [if_pos rfl] at H; exact H
          clear H
          have H := H1
          clear H1
          obtain rfl := Option.some.inj H
          go_wp2
          go_ret
          exact ⟨by first | rfl | (simp [errW_none, errW_some] <;> rfl) | (simp [*, errW_none, errW_some] <;> rfl), by repeat (first | (with_reducible first | exact HB.out | apply below_alloc | apply pw_below_drewN | apply below_drew1 | refine below_set ?_ GE211.out) | exact HB.out)⟩
        · replace c14 := Bool.eq_false_iff.mpr c14
          subst c14
          have H1 : (paternosterlaw05_ConfBanks.l0 kj4 0 0 0 l0_0 a0_1 a0_2 l0_3 a0_4 a0_5 a0_6 a0_7 a0_8 a0_9 a0_10 a0_11 a0_12) = some r := by rw [if_neg (show ¬ (false = true) by decide)] at H; exact H
          clear H
          have H := H1
          clear H1
          have H' := Aside0.mk H
          clear H
          go_wp2
          go_loopg [5, 6, 7] kj4 (fun kq v5 v6 v7 w' => ∃ (x5_2 : Int) (x6_2 : Int) (x7_2 : Int), v5 = .int .i64 x5_2 ∧ v6 = .int .i64 x6_2 ∧ v7 = .int .i64 x7_2 ∧ Aside0 (paternosterlaw05_ConfBanks.l0 kq x5_2 x6_2 x7_2 l0_0 a0_1 a0_2 l0_3 a0_4 a0_5 a0_6 a0_7 a0_8 a0_9 a0_10 a0_11 a0_12 = some r) ∧ Aside0 (kq ≤ kj4) ∧ Aside0 (w'.heap[gb211]? = some (.cells #[(.slice A0_0 l0_0.length c0_0), .int .i64 a0_1, .int .i64 a0_2, (.slice A0_3 l0_3.length c0_3), .int .i64 a0_4, .int .i64 a0_5, .int .i64 a0_6, .int .i64 a0_7, .int .i64 a0_8, .int .i64 a0_9, .int .i64 a0_10, .int .i64 a0_11, .int .i64 a0_12] 25 (0, 0))) ∧ Aside0 (Below w.heap.size w w'))
          case atStart => exact ⟨(0), (0), (0), (by first | rfl | (simp; done) | (simp [*]; done)), (by first | rfl | (simp; done) | (simp [*]; done)), (by first | rfl | (simp; done) | (simp [*]; done)), H', ⟨Nat.le_refl _⟩, ⟨by (with_reducible repeat (first | refine blk_drewN ?_ _ | refine blk_drew ?_ | refine blk_alloc ?_ _)); exact BK211.out⟩, ⟨by repeat (first | (with_reducible first | exact HB.out | apply below_alloc | apply pw_below_drewN | apply below_drew1 | refine below_set ?_ GE211.out) | exact HB.out)⟩⟩
          case round =>
            clear H'
            try clear c1
            try clear p2
            try clear c3
            try clear c4
            try clear c10
            try clear c14
            try clear hcz12_0
            try clear hcz12_1
            try clear hcz12_10
            try clear hcz12_11
            try clear hcz12_12
            try clear hcz12_2
            try clear hcz12_3
            try clear hcz12_4
            try clear hcz12_5
            try clear hcz12_6
            try clear hcz12_7
            try clear hcz12_8
            try clear hcz12_9
            try clear hcz8_0
            try clear hcz8_1
            try clear hcz8_10
            try clear hcz8_11
            try clear hcz8_12
            try clear hcz8_2
            try clear hcz8_3
            try clear hcz8_4
            try clear hcz8_5
            try clear hcz8_6
            try clear hcz8_7
            try clear hcz8_8
            try clear hcz8_9
            try clear hfz12_0
            try clear hfz12_1
            try clear hfz12_10
            try clear hfz12_11
            try clear hfz12_12
            try clear hfz12_2
            try clear hfz12_3
            try clear hfz12_4
            try clear hfz12_5
            try clear hfz12_6
            try clear hfz12_7
            try clear hfz12_8
            try clear hfz12_9
            try clear hfz8_0
            try clear hfz8_1
            try clear hfz8_10
            try clear hfz8_11
            try clear hfz8_12
            try clear hfz8_2
            try clear hfz8_3
            try clear hfz8_4
            try clear hfz8_5
            try clear hfz8_6
            try clear hfz8_7
            try clear hfz8_8
            try clear hfz8_9
            try clear p2
            obtain ⟨x5_2, x6_2, x7_2, rfl, rfl, rfl, HA, HK2, BK211, HB⟩ := hrel
            cases gk with
            | zero => exact absurd HA.out (by simp [paternosterlaw05_ConfBanks.l0])
            | succ k2 =>
              have H := HA.out
              clear HA
              simp only [paternosterlaw05_ConfBanks.l0] at H
              replace H := Option.bind_eq_some_iff.mp H
              obtain ⟨t215, A150, H⟩ := H
              replace H : (if x7_2 < t215 then ((conf_Conf_Bank.f k2 l0_0 a0_1 a0_2 l0_3 a0_4 a0_5 a0_6 a0_7 a0_8 a0_9 a0_10 a0_11 a0_12 x7_2).bind fun t217 => (if t217 < x5_2 then (paternosterlaw05_ConfBanks.j2 k2 x5_2 x6_2 x7_2 t217 true l0_0 a0_1 a0_2 l0_3 a0_4 a0_5 a0_6 a0_7 a0_8 a0_9 a0_10 a0_11 a0_12) else (if t217 > (wrap64 (x5_2 + 1)) then (paternosterlaw05_ConfBanks.j2 k2 x5_2 x6_2 x7_2 t217 true l0_0 a0_1 a0_2 l0_3 a0_4 a0_5 a0_6 a0_7 a0_8 a0_9 a0_10 a0_11 a0_12) else (paternosterlaw05_ConfBanks.j2 k2 x5_2 x6_2 x7_2 t217 (decide (t217 ≥ (l0_0.length : Int))) l0_0 a0_1 a0_2 l0_3 a0_4 a0_5 a0_6 a0_7 a0_8 a0_9 a0_10 a0_11 a0_12)))) else (if x5_2 = (wrap64 ((l0_0.length : Int) - 1)) then (if 0 ≤ x5_2 then (if x5_2 < (l0_0.length : Int) then (some (x6_2 == ((rd_T38 l0_0 x5_2).f0))) else (none)) else (none)) else (some false))) = some r := H
              have A15 := Aside0.mk A150
              clear A150
              by_cases c16 : x7_2 < t215
              · rw [if_pos c16] at H
                have c16b0 : decide (x7_2 < t215) = true := decide_eq_true c16
                clear c16
                replace H := Option.bind_eq_some_iff.mp H
                obtain ⟨t217, A170, H⟩ := H
                replace H : (if t217 < x5_2 then (paternosterlaw05_ConfBanks.j2 k2 x5_2 x6_2 x7_2 t217 true l0_0 a0_1 a0_2 l0_3 a0_4 a0_5 a0_6 a0_7 a0_8 a0_9 a0_10 a0_11 a0_12) else (if t217 > (wrap64 (x5_2 + 1)) then (paternosterlaw05_ConfBanks.j2 k2 x5_2 x6_2 x7_2 t217 true l0_0 a0_1 a0_2 l0_3 a0_4 a0_5 a0_6 a0_7 a0_8 a0_9 a0_10 a0_11 a0_12) else (paternosterlaw05_ConfBanks.j2 k2 x5_2 x6_2 x7_2 t217 (decide (t217 ≥ (l0_0.length : Int))) l0_0 a0_1 a0_2 l0_3 a0_4 a0_5 a0_6 a0_7 a0_8 a0_9 a0_10 a0_11 a0_12))) = some r := H
                have A17 := Aside0.mk A170
                clear A170
                have HC18 := Aside0.mk H
                clear H
                have hcz19_0 : wr.cell? ⟨gb211, 0, none⟩ = some (.slice A0_0 l0_0.length c0_0) := (blk_cell BK211.out 0).trans rfl
                have hcz19_1 : wr.cell? ⟨gb211, 1, none⟩ = some (.int .i64 a0_1) := (blk_cell BK211.out 1).trans rfl
                have hcz19_2 : wr.cell? ⟨gb211, 2, none⟩ = some (.int .i64 a0_2) := (blk_cell BK211.out 2).trans rfl
                have hcz19_3 : wr.cell? ⟨gb211, 3, none⟩ = some (.slice A0_3 l0_3.length c0_3) := (blk_cell BK211.out 3).trans rfl
                have hcz19_4 : wr.cell? ⟨gb211, 4, none⟩ = some (.int .i64 a0_4) := (blk_cell BK211.out 4).trans rfl
                have hcz19_5 : wr.cell? ⟨gb211, 5, none⟩ = some (.int .i64 a0_5) := (blk_cell BK211.out 5).trans rfl
                have hcz19_6 : wr.cell? ⟨gb211, 6, none⟩ = some (.int .i64 a0_6) := (blk_cell BK211.out 6).trans rfl
                have hcz19_7 : wr.cell? ⟨gb211, 7, none⟩ = some (.int .i64 a0_7) := (blk_cell BK211.out 7).trans rfl
                have hcz19_8 : wr.cell? ⟨gb211, 8, none⟩ = some (.int .i64 a0_8) := (blk_cell BK211.out 8).trans rfl
                have hcz19_9 : wr.cell? ⟨gb211, 9, none⟩ = some (.int .i64 a0_9) := (blk_cell BK211.out 9).trans rfl
                have hcz19_10 : wr.cell? ⟨gb211, 10, none⟩ = some (.int .i64 a0_10) := (blk_cell BK211.out 10).trans rfl
                have hcz19_11 : wr.cell? ⟨gb211, 11, none⟩ = some (.int .i64 a0_11) := (blk_cell BK211.out 11).trans rfl
                have hcz19_12 : wr.cell? ⟨gb211, 12, none⟩ = some (.int .i64 a0_12) := (blk_cell BK211.out 12).trans rfl
                have hfz19_0 := blk_frozen BK211.out 0
                have hfz19_1 := blk_frozen BK211.out 1
                have hfz19_2 := blk_frozen BK211.out 2
                have hfz19_3 := blk_frozen BK211.out 3
                have hfz19_4 := blk_frozen BK211.out 4
                have hfz19_5 := blk_frozen BK211.out 5
                have hfz19_6 := blk_frozen BK211.out 6
                have hfz19_7 := blk_frozen BK211.out 7
                have hfz19_8 := blk_frozen BK211.out 8
                have hfz19_9 := blk_frozen BK211.out 9
                have hfz19_10 := blk_frozen BK211.out 10
                have hfz19_11 := blk_frozen BK211.out 11
                have hfz19_12 := blk_frozen BK211.out 12
                go_upto_region 13 with (first | ((with_reducible refine gate_callee (f := 22) rfl ?_); refine goesL_ (some 23) rfl rfl Try.func22 (by kernel_rfl) rfl #[.agg #[.slice A0_0 l0_0.length c0_0, .int .i64 a0_1, .int .i64 a0_2, .slice A0_3 l0_3.length c0_3, .int .i64 a0_4, .int .i64 a0_5, .int .i64 a0_6, .int .i64 a0_7, .int .i64 a0_8, .int .i64 a0_9, .int .i64 a0_10, .int .i64 a0_11, .int .i64 a0_12]] rfl (by (try simp only [List.map_toArray, List.map_cons, List.map_nil]); first | done | rfl | (simp only [List.length_drop, List.length_take]; rfl)) ?_; (with_reducible refine (conf_Cars.calls k2 _ _ l0_0 a0_1 a0_2 _ _ l0_3 a0_4 a0_5 a0_6 a0_7 a0_8 a0_9 a0_10 a0_11 a0_12 t215 _ ?side1 ?side2 ?side3 ?side4 A15.out).mono ?_); (case side1 => repeat (first | exact (Kd.C_below HR0_0.out HB.out) | (with_reducible refine Kd.C_alloc ?_ _) | (with_reducible refine Kd.C_drewN ?_ _) | (with_reducible refine Kd.C_drew ?_))); (case side2 => exact HC0_0.out); (case side3 => repeat (first | exact (Kd.C_below HR0_3.out HB.out) | (with_reducible refine Kd.C_alloc ?_ _) | (with_reducible refine Kd.C_drewN ?_ _) | (with_reducible refine Kd.C_drew ?_))); (case side4 => exact HC0_3.out); rintro e w20 ⟨rfl, hb⟩; refine ⟨_, rfl, ?_⟩; have n0_ := Aside0.mk (blk_below (g := gb211) (o := .cells #[.slice A0_0 l0_0.length c0_0, .int .i64 a0_1, .int .i64 a0_2, .slice A0_3 l0_3.length c0_3, .int .i64 a0_4, .int .i64 a0_5, .int .i64 a0_6, .int .i64 a0_7, .int .i64 a0_8, .int .i64 a0_9, .int .i64 a0_10, .int .i64 a0_11, .int .i64 a0_12] 25 (0, 0)) (by (with_reducible repeat (first | refine blk_drewN ?_ _ | refine blk_drew ?_ | refine blk_alloc ?_ _)); exact BK211.out) hb); have n1_ := Aside0.mk (below_step (by repeat (first | (with_reducible first | exact HB.out | apply below_alloc | apply pw_below_drewN | apply below_drew1 | refine below_set ?_ GE211.out) | exact HB.out)) hb); clear BK211; clear HB; have BK211 := n0_; have HB := n1_; clear n0_ n1_; (try clear hb); (try clear hb2); (try clear hk); (try clear hi); have hcz21_0 : w20.cell? ⟨gb211, 0, none⟩ = some (.slice A0_0 l0_0.length c0_0) := (blk_cell BK211.out 0).trans rfl; have hcz21_1 : w20.cell? ⟨gb211, 1, none⟩ = some (.int .i64 a0_1) := (blk_cell BK211.out 1).trans rfl; have hcz21_2 : w20.cell? ⟨gb211, 2, none⟩ = some (.int .i64 a0_2) := (blk_cell BK211.out 2).trans rfl; have hcz21_3 : w20.cell? ⟨gb211, 3, none⟩ = some (.slice A0_3 l0_3.length c0_3) := (blk_cell BK211.out 3).trans rfl; have hcz21_4 : w20.cell? ⟨gb211, 4, none⟩ = some (.int .i64 a0_4) := (blk_cell BK211.out 4).trans rfl; have hcz21_5 : w20.cell? ⟨gb211, 5, none⟩ = some (.int .i64 a0_5) := (blk_cell BK211.out 5).trans rfl; have hcz21_6 : w20.cell? ⟨gb211, 6, none⟩ = some (.int .i64 a0_6) := (blk_cell BK211.out 6).trans rfl; have hcz21_7 : w20.cell? ⟨gb211, 7, none⟩ = some (.int .i64 a0_7) := (blk_cell BK211.out 7).trans rfl; have hcz21_8 : w20.cell? ⟨gb211, 8, none⟩ = some (.int .i64 a0_8) := (blk_cell BK211.out 8).trans rfl; have hcz21_9 : w20.cell? ⟨gb211, 9, none⟩ = some (.int .i64 a0_9) := (blk_cell BK211.out 9).trans rfl; have hcz21_10 : w20.cell? ⟨gb211, 10, none⟩ = some (.int .i64 a0_10) := (blk_cell BK211.out 10).trans rfl; have hcz21_11 : w20.cell? ⟨gb211, 11, none⟩ = some (.int .i64 a0_11) := (blk_cell BK211.out 11).trans rfl; have hcz21_12 : w20.cell? ⟨gb211, 12, none⟩ = some (.int .i64 a0_12) := (blk_cell BK211.out 12).trans rfl; have hfz21_0 := blk_frozen BK211.out 0; have hfz21_1 := blk_frozen BK211.out 1; have hfz21_2 := blk_frozen BK211.out 2; have hfz21_3 := blk_frozen BK211.out 3; have hfz21_4 := blk_frozen BK211.out 4; have hfz21_5 := blk_frozen BK211.out 5; have hfz21_6 := blk_frozen BK211.out 6; have hfz21_7 := blk_frozen BK211.out 7; have hfz21_8 := blk_frozen BK211.out 8; have hfz21_9 := blk_frozen BK211.out 9; have hfz21_10 := blk_frozen BK211.out 10; have hfz21_11 := blk_frozen BK211.out 11; have hfz21_12 := blk_frozen BK211.out 12) | ((with_reducible refine gate_callee (f := 23) rfl ?_); refine goesL_ (some 29) rfl rfl Try.func23 (by kernel_rfl) rfl #[.agg #[.slice A0_0 l0_0.length c0_0, .int .i64 a0_1, .int .i64 a0_2, .slice A0_3 l0_3.length c0_3, .int .i64 a0_4, .int .i64 a0_5, .int .i64 a0_6, .int .i64 a0_7, .int .i64 a0_8, .int .i64 a0_9, .int .i64 a0_10, .int .i64 a0_11, .int .i64 a0_12], .int .i64 x7_2] rfl (by (try simp only [List.map_toArray, List.map_cons, List.map_nil]); first | done | rfl | (simp only [List.length_drop, List.length_take]; rfl)) ?_; (with_reducible refine (conf_Conf_Bank.calls k2 _ _ l0_0 a0_1 a0_2 _ _ l0_3 a0_4 a0_5 a0_6 a0_7 a0_8 a0_9 a0_10 a0_11 a0_12 x7_2 t217 _ ?side1 ?side2 ?side3 ?side4 A17.out).mono ?_); (case side1 => repeat (first | exact (Kd.C_below HR0_0.out HB.out) | (with_reducible refine Kd.C_alloc ?_ _) | (with_reducible refine Kd.C_drewN ?_ _) | (with_reducible refine Kd.C_drew ?_))); (case side2 => exact HC0_0.out); (case side3 => repeat (first | exact (Kd.C_below HR0_3.out HB.out) | (with_reducible refine Kd.C_alloc ?_ _) | (with_reducible refine Kd.C_drewN ?_ _) | (with_reducible refine Kd.C_drew ?_))); (case side4 => exact HC0_3.out); rintro e w22 ⟨rfl, hb⟩; refine ⟨_, rfl, ?_⟩; have n0_ := Aside0.mk (blk_below (g := gb211) (o := .cells #[.slice A0_0 l0_0.length c0_0, .int .i64 a0_1, .int .i64 a0_2, .slice A0_3 l0_3.length c0_3, .int .i64 a0_4, .int .i64 a0_5, .int .i64 a0_6, .int .i64 a0_7, .int .i64 a0_8, .int .i64 a0_9, .int .i64 a0_10, .int .i64 a0_11, .int .i64 a0_12] 25 (0, 0)) (by (with_reducible repeat (first | refine blk_drewN ?_ _ | refine blk_drew ?_ | refine blk_alloc ?_ _)); exact BK211.out) hb); have n1_ := Aside0.mk (below_step (by repeat (first | (with_reducible first | exact HB.out | apply below_alloc | apply pw_below_drewN | apply below_drew1 | refine below_set ?_ GE211.out) | exact HB.out)) hb); clear BK211; clear HB; have BK211 := n0_; have HB := n1_; clear n0_ n1_; (try clear hb); (try clear hb2); (try clear hk); (try clear hi)))
                (try simp only [Act.put, List.setIfInBounds_toArray, List.set_cons_zero, List.set_cons_succ])
                go_cut [45] (fun v45 wc => ∃ (kq : Nat) (x45_17 : Bool), v45 = .bool x45_17 ∧ Aside0 (paternosterlaw05_ConfBanks.j2 kq x5_2 x6_2 x7_2 t217 x45_17 l0_0 a0_1 a0_2 l0_3 a0_4 a0_5 a0_6 a0_7 a0_8 a0_9 a0_10 a0_11 a0_12 = some r) ∧ Aside0 (kq ≤ k2) ∧ Aside0 (wc.heap[gb211]? = some (.cells #[(.slice A0_0 l0_0.length c0_0), .int .i64 a0_1, .int .i64 a0_2, (.slice A0_3 l0_3.length c0_3), .int .i64 a0_4, .int .i64 a0_5, .int .i64 a0_6, .int .i64 a0_7, .int .i64 a0_8, .int .i64 a0_9, .int .i64 a0_10, .int .i64 a0_11, .int .i64 a0_12] 25 (0, 0))) ∧ Aside0 (Below w.heap.size w wc))
                case first =>
                  have H := HC18.out
                  clear HC18
                  by_cases c23 : t217 < x5_2
                  · rw [if_pos c23] at H
                    have c23b0 : decide (t217 < x5_2) = true := decide_eq_true c23
                    clear c23
                    (first | rw [c23b0] | (simp only [i64_w, i32_w]; rw [c23b0]) | skip)
                    have H' := Aside0.mk H
                    clear H
                    go_wp2
                    go_meet
                    case rel => exact ⟨_, (true), (by first | rfl | (simp; done) | (simp [*]; done)), H', ⟨by have := HJ4.out; have := HK2.out; first | omega | exact Nat.le_refl _⟩, ⟨by (with_reducible repeat (first | refine blk_drewN ?_ _ | refine blk_drew ?_ | refine blk_alloc ?_ _)); exact BK211.out⟩, ⟨by repeat (first | (with_reducible first | exact HB.out | apply below_alloc | apply pw_below_drewN | apply below_drew1 | refine below_set ?_ GE211.out) | exact HB.out)⟩⟩
                  · rw [if_neg c23] at H
                    have c23b0 : decide (t217 < x5_2) = false := decide_eq_false c23
                    clear c23
                    (first | rw [c23b0] | (simp only [i64_w, i32_w]; rw [c23b0]) | skip)
                    by_cases c24 : t217 > (wrap64 (x5_2 + 1))
                    · rw [if_pos c24] at H
                      have c24b0 : decide ((wrap64 (x5_2 + 1)) < t217) = true := decide_eq_true c24
                      clear c24
                      have H' := Aside0.mk H
                      clear H
                      go_wp2
                      go_meet
                      case rel => exact ⟨_, (true), (by first | rfl | (simp; done) | (simp [*]; done)), H', ⟨by have := HJ4.out; have := HK2.out; first | omega | exact Nat.le_refl _⟩, ⟨by (with_reducible repeat (first | refine blk_drewN ?_ _ | refine blk_drew ?_ | refine blk_alloc ?_ _)); exact BK211.out⟩, ⟨by repeat (first | (with_reducible first | exact HB.out | apply below_alloc | apply pw_below_drewN | apply below_drew1 | refine below_set ?_ GE211.out) | exact HB.out)⟩⟩
                    · rw [if_neg c24] at H
                      have c24b0 : decide ((wrap64 (x5_2 + 1)) < t217) = false := decide_eq_false c24
                      clear c24
                      have H' := Aside0.mk H
                      clear H
                      have hcz25_0 : w22.cell? ⟨gb211, 0, none⟩ = some (.slice A0_0 l0_0.length c0_0) := (blk_cell BK211.out 0).trans rfl
                      have hcz25_1 : w22.cell? ⟨gb211, 1, none⟩ = some (.int .i64 a0_1) := (blk_cell BK211.out 1).trans rfl
                      have hcz25_2 : w22.cell? ⟨gb211, 2, none⟩ = some (.int .i64 a0_2) := (blk_cell BK211.out 2).trans rfl
                      have hcz25_3 : w22.cell? ⟨gb211, 3, none⟩ = some (.slice A0_3 l0_3.length c0_3) := (blk_cell BK211.out 3).trans rfl
                      have hcz25_4 : w22.cell? ⟨gb211, 4, none⟩ = some (.int .i64 a0_4) := (blk_cell BK211.out 4).trans rfl
                      have hcz25_5 : w22.cell? ⟨gb211, 5, none⟩ = some (.int .i64 a0_5) := (blk_cell BK211.out 5).trans rfl
                      have hcz25_6 : w22.cell? ⟨gb211, 6, none⟩ = some (.int .i64 a0_6) := (blk_cell BK211.out 6).trans rfl
                      have hcz25_7 : w22.cell? ⟨gb211, 7, none⟩ = some (.int .i64 a0_7) := (blk_cell BK211.out 7).trans rfl
                      have hcz25_8 : w22.cell? ⟨gb211, 8, none⟩ = some (.int .i64 a0_8) := (blk_cell BK211.out 8).trans rfl
                      have hcz25_9 : w22.cell? ⟨gb211, 9, none⟩ = some (.int .i64 a0_9) := (blk_cell BK211.out 9).trans rfl
                      have hcz25_10 : w22.cell? ⟨gb211, 10, none⟩ = some (.int .i64 a0_10) := (blk_cell BK211.out 10).trans rfl
                      have hcz25_11 : w22.cell? ⟨gb211, 11, none⟩ = some (.int .i64 a0_11) := (blk_cell BK211.out 11).trans rfl
                      have hcz25_12 : w22.cell? ⟨gb211, 12, none⟩ = some (.int .i64 a0_12) := (blk_cell BK211.out 12).trans rfl
                      have hfz25_0 := blk_frozen BK211.out 0
                      have hfz25_1 := blk_frozen BK211.out 1
                      have hfz25_2 := blk_frozen BK211.out 2
                      have hfz25_3 := blk_frozen BK211.out 3
                      have hfz25_4 := blk_frozen BK211.out 4
                      have hfz25_5 := blk_frozen BK211.out 5
                      have hfz25_6 := blk_frozen BK211.out 6
                      have hfz25_7 := blk_frozen BK211.out 7
                      have hfz25_8 := blk_frozen BK211.out 8
                      have hfz25_9 := blk_frozen BK211.out 9
                      have hfz25_10 := blk_frozen BK211.out 10
                      have hfz25_11 := blk_frozen BK211.out 11
                      have hfz25_12 := blk_frozen BK211.out 12
                      go_wp2
                      go_meet
                      case rel => exact ⟨_, (decide (t217 ≥ (l0_0.length : Int))), (by first | rfl | (simp; done) | (simp [*]; done)), H', ⟨by have := HJ4.out; have := HK2.out; first | omega | exact Nat.le_refl _⟩, ⟨by (with_reducible repeat (first | refine blk_drewN ?_ _ | refine blk_drew ?_ | refine blk_alloc ?_ _)); exact BK211.out⟩, ⟨by repeat (first | (with_reducible first | exact HB.out | apply below_alloc | apply pw_below_drewN | apply below_drew1 | refine below_set ?_ GE211.out) | exact HB.out)⟩⟩
                case rest =>
                  clear HC18
                  try clear c1
                  try clear c2
                  try clear p2
                  try clear c3
                  try clear c4
                  try clear p6
                  try clear c10
                  try clear c14
                  try clear c16
                  try clear c16b0
                  try clear c17
                  try clear c18
                  try clear c22
                  try clear c23
                  try clear c23b0
                  try clear c24
                  try clear c24b0
                  try clear hcz12_0
                  try clear hcz12_1
                  try clear hcz12_10
                  try clear hcz12_11
                  try clear hcz12_12
                  try clear hcz12_2
                  try clear hcz12_3
                  try clear hcz12_4
                  try clear hcz12_5
                  try clear hcz12_6
                  try clear hcz12_7
                  try clear hcz12_8
                  try clear hcz12_9
                  try clear hcz19_0
                  try clear hcz19_1
                  try clear hcz19_10
                  try clear hcz19_11
                  try clear hcz19_12
                  try clear hcz19_2
                  try clear hcz19_3
                  try clear hcz19_4
                  try clear hcz19_5
                  try clear hcz19_6
                  try clear hcz19_7
                  try clear hcz19_8
                  try clear hcz19_9
                  try clear hcz21_0
                  try clear hcz21_1
                  try clear hcz21_10
                  try clear hcz21_11
                  try clear hcz21_12
                  try clear hcz21_2
                  try clear hcz21_3
                  try clear hcz21_4
                  try clear hcz21_5
                  try clear hcz21_6
                  try clear hcz21_7
                  try clear hcz21_8
                  try clear hcz21_9
                  try clear hcz25_0
                  try clear hcz25_1
                  try clear hcz25_10
                  try clear hcz25_11
                  try clear hcz25_12
                  try clear hcz25_2
                  try clear hcz25_3
                  try clear hcz25_4
                  try clear hcz25_5
                  try clear hcz25_6
                  try clear hcz25_7
                  try clear hcz25_8
                  try clear hcz25_9
                  try clear hcz8_0
                  try clear hcz8_1
                  try clear hcz8_10
                  try clear hcz8_11
                  try clear hcz8_12
                  try clear hcz8_2
                  try clear hcz8_3
                  try clear hcz8_4
                  try clear hcz8_5
                  try clear hcz8_6
                  try clear hcz8_7
                  try clear hcz8_8
                  try clear hcz8_9
                  try clear hfz12_0
                  try clear hfz12_1
                  try clear hfz12_10
                  try clear hfz12_11
                  try clear hfz12_12
                  try clear hfz12_2
                  try clear hfz12_3
                  try clear hfz12_4
                  try clear hfz12_5
                  try clear hfz12_6
                  try clear hfz12_7
                  try clear hfz12_8
                  try clear hfz12_9
                  try clear hfz19_0
                  try clear hfz19_1
                  try clear hfz19_10
                  try clear hfz19_11
                  try clear hfz19_12
                  try clear hfz19_2
                  try clear hfz19_3
                  try clear hfz19_4
                  try clear hfz19_5
                  try clear hfz19_6
                  try clear hfz19_7
                  try clear hfz19_8
                  try clear hfz19_9
                  try clear hfz21_0
                  try clear hfz21_1
                  try clear hfz21_10
                  try clear hfz21_11
                  try clear hfz21_12
                  try clear hfz21_2
                  try clear hfz21_3
                  try clear hfz21_4
                  try clear hfz21_5
                  try clear hfz21_6
                  try clear hfz21_7
                  try clear hfz21_8
                  try clear hfz21_9
                  try clear hfz25_0
                  try clear hfz25_1
                  try clear hfz25_10
                  try clear hfz25_11
                  try clear hfz25_12
                  try clear hfz25_2
                  try clear hfz25_3
                  try clear hfz25_4
                  try clear hfz25_5
                  try clear hfz25_6
                  try clear hfz25_7
                  try clear hfz25_8
                  try clear hfz25_9
                  try clear hfz8_0
                  try clear hfz8_1
                  try clear hfz8_10
                  try clear hfz8_11
                  try clear hfz8_12
                  try clear hfz8_2
                  try clear hfz8_3
                  try clear hfz8_4
                  try clear hfz8_5
                  try clear hfz8_6
                  try clear hfz8_7
                  try clear hfz8_8
                  try clear hfz8_9
                  try clear p2
                  obtain ⟨kq, x45_17, rfl, HA, HJ17, BK211, HB⟩ := hcut
                  cases kq with
                  | zero => exact absurd HA.out (by simp [paternosterlaw05_ConfBanks.j2])
                  | succ kj17 =>
                    have H := HA.out
                    clear HA
                    simp only [paternosterlaw05_ConfBanks.j2] at H
                    by_cases c26 : x45_17 = true
                    · subst c26
                      have H1 : (some false) = some r := by rw [if_pos rfl] at H; exact H
                      clear H
                      have H := H1
                      clear H1
                      obtain rfl := Option.some.inj H
                      go_wp2
                      go_ret
                      exact ⟨by first | rfl | (simp [errW_none, errW_some] <;> rfl) | (simp [*, errW_none, errW_some] <;> rfl), by repeat (first | (with_reducible first | exact HB.out | apply below_alloc | apply pw_below_drewN | apply below_drew1 | refine below_set ?_ GE211.out) | exact HB.out)⟩
                    · replace c26 := Bool.eq_false_iff.mpr c26
                      subst c26
                      have H1 : (if t217 = x5_2 then (paternosterlaw05_ConfBanks.l0 kj17 t217 (wrap64 (x6_2 + 1)) (wrap64 (x7_2 + 1)) l0_0 a0_1 a0_2 l0_3 a0_4 a0_5 a0_6 a0_7 a0_8 a0_9 a0_10 a0_11 a0_12) else (if 0 ≤ x5_2 then (if x5_2 < (l0_0.length : Int) then (if x6_2 = ((rd_T38 l0_0 x5_2).f0) then (paternosterlaw05_ConfBanks.l0 kj17 t217 (0 + 1) (wrap64 (x7_2 + 1)) l0_0 a0_1 a0_2 l0_3 a0_4 a0_5 a0_6 a0_7 a0_8 a0_9 a0_10 a0_11 a0_12) else (some false)) else (none)) else (none))) = some r := by rw [if_neg (show ¬ (false = true) by decide)] at H; exact H
                      clear H
                      have H := H1
                      clear H1
                      by_cases c27 : t217 = x5_2
                      · rw [if_pos c27] at H
                        have c27b0 : (t217 == x5_2) = true := beq_iff_eq.mpr c27
                        have c27b1 : (t217 != x5_2) = false := bne_eq_false_iff_eq.mpr c27
                        clear c27
                        have H' := Aside0.mk H
                        clear H
                        go_wp2
                        go_roundg kj17
                        case measure => have := HJ4.out; have := HK2.out; have := HJ17.out; omega
                        case rel => exact ⟨(t217), (wrap64 (x6_2 + 1)), (wrap64 (x7_2 + 1)), (by first | rfl | (simp; done) | (simp [*]; done)), (by first | rfl | (simp; done) | (simp [*]; done)), (by first | rfl | (simp; done) | (simp [*]; done)), H', ⟨by have := HJ4.out; have := HK2.out; have := HJ17.out; omega⟩, ⟨by (with_reducible repeat (first | refine blk_drewN ?_ _ | refine blk_drew ?_ | refine blk_alloc ?_ _)); exact BK211.out⟩, ⟨by repeat (first | (with_reducible first | exact HB.out | apply below_alloc | apply pw_below_drewN | apply below_drew1 | refine below_set ?_ GE211.out) | exact HB.out)⟩⟩
                      · rw [if_neg c27] at H
                        have c27b0 : (t217 == x5_2) = false := beq_eq_false_iff_ne.mpr c27
                        have c27b1 : (t217 != x5_2) = true := bne_iff_ne.mpr c27
                        by_cases c28 : 0 ≤ x5_2
                        · rw [if_pos c28] at H
                          have c28b0 : decide (0 ≤ x5_2) = true := decide_eq_true c28
                          clear c28
                          by_cases c29 : x5_2 < (l0_0.length : Int)
                          · rw [if_pos c29] at H
                            have c29b0 : decide (x5_2 < (l0_0.length : Int)) = true := decide_eq_true c29
                            clear c29
                            by_cases c30 : x6_2 = ((rd_T38 l0_0 x5_2).f0)
                            · rw [if_pos c30] at H
                              have c30b0 : (x6_2 == ((rd_T38 l0_0 x5_2).f0)) = true := beq_iff_eq.mpr c30
                              have c30b1 : (x6_2 != ((rd_T38 l0_0 x5_2).f0)) = false := bne_eq_false_iff_eq.mpr c30
                              clear c30
                              have H' := Aside0.mk H
                              clear H
                              have hcz31_0 : wc.cell? ⟨gb211, 0, none⟩ = some (.slice A0_0 l0_0.length c0_0) := (blk_cell BK211.out 0).trans rfl
                              have hcz31_1 : wc.cell? ⟨gb211, 1, none⟩ = some (.int .i64 a0_1) := (blk_cell BK211.out 1).trans rfl
                              have hcz31_2 : wc.cell? ⟨gb211, 2, none⟩ = some (.int .i64 a0_2) := (blk_cell BK211.out 2).trans rfl
                              have hcz31_3 : wc.cell? ⟨gb211, 3, none⟩ = some (.slice A0_3 l0_3.length c0_3) := (blk_cell BK211.out 3).trans rfl
                              have hcz31_4 : wc.cell? ⟨gb211, 4, none⟩ = some (.int .i64 a0_4) := (blk_cell BK211.out 4).trans rfl
                              have hcz31_5 : wc.cell? ⟨gb211, 5, none⟩ = some (.int .i64 a0_5) := (blk_cell BK211.out 5).trans rfl
                              have hcz31_6 : wc.cell? ⟨gb211, 6, none⟩ = some (.int .i64 a0_6) := (blk_cell BK211.out 6).trans rfl
                              have hcz31_7 : wc.cell? ⟨gb211, 7, none⟩ = some (.int .i64 a0_7) := (blk_cell BK211.out 7).trans rfl
                              have hcz31_8 : wc.cell? ⟨gb211, 8, none⟩ = some (.int .i64 a0_8) := (blk_cell BK211.out 8).trans rfl
                              have hcz31_9 : wc.cell? ⟨gb211, 9, none⟩ = some (.int .i64 a0_9) := (blk_cell BK211.out 9).trans rfl
                              have hcz31_10 : wc.cell? ⟨gb211, 10, none⟩ = some (.int .i64 a0_10) := (blk_cell BK211.out 10).trans rfl
                              have hcz31_11 : wc.cell? ⟨gb211, 11, none⟩ = some (.int .i64 a0_11) := (blk_cell BK211.out 11).trans rfl
                              have hcz31_12 : wc.cell? ⟨gb211, 12, none⟩ = some (.int .i64 a0_12) := (blk_cell BK211.out 12).trans rfl
                              have hfz31_0 := blk_frozen BK211.out 0
                              have hfz31_1 := blk_frozen BK211.out 1
                              have hfz31_2 := blk_frozen BK211.out 2
                              have hfz31_3 := blk_frozen BK211.out 3
                              have hfz31_4 := blk_frozen BK211.out 4
                              have hfz31_5 := blk_frozen BK211.out 5
                              have hfz31_6 := blk_frozen BK211.out 6
                              have hfz31_7 := blk_frozen BK211.out 7
                              have hfz31_8 := blk_frozen BK211.out 8
                              have hfz31_9 := blk_frozen BK211.out 9
                              have hfz31_10 := blk_frozen BK211.out 10
                              have hfz31_11 := blk_frozen BK211.out 11
                              have hfz31_12 := blk_frozen BK211.out 12
                              have p218 : 0 ≤ (x5_2 : Int) := of_decide_eq_true (by first | (with_reducible assumption) | assumption)
                              have q218 : x5_2 < (l0_0.length : Int) := of_decide_eq_true (by first | (with_reducible assumption) | assumption)
                              obtain ⟨ad218, e218, hx218_0, hx218_1, hx218_2, hx218_3, hx218_4, hx218_5, hx218_6⟩ := at_T38 HR0_0.out x5_2 p218 q218
                              cases e218
                              replace hx218_0 := (HB.out.cell (World.block_lt_of_cell? w _ hx218_0)).trans hx218_0
                              replace hx218_1 := (HB.out.cell (World.block_lt_of_cell? w _ hx218_1)).trans hx218_1
                              replace hx218_2 := (HB.out.cell (World.block_lt_of_cell? w _ hx218_2)).trans hx218_2
                              replace hx218_3 := (HB.out.cell (World.block_lt_of_cell? w _ hx218_3)).trans hx218_3
                              replace hx218_4 := (HB.out.cell (World.block_lt_of_cell? w _ hx218_4)).trans hx218_4
                              replace hx218_5 := (HB.out.cell (World.block_lt_of_cell? w _ hx218_5)).trans hx218_5
                              replace hx218_6 := (HB.out.cell (World.block_lt_of_cell? w _ hx218_6)).trans hx218_6
                              replace p218 := eq_true p218
                              replace q218 := eq_true q218
                              go_wp2
                              go_roundg kj17
                              case measure => have := HJ4.out; have := HK2.out; have := HJ17.out; omega
                              case rel => exact ⟨(t217), (0 + 1), (wrap64 (x7_2 + 1)), (by first | rfl | (simp; done) | (simp [*]; done)), (by first | rfl | (simp; done) | (simp [*]; done)), (by first | rfl | (simp; done) | (simp [*]; done)), H', ⟨by have := HJ4.out; have := HK2.out; have := HJ17.out; omega⟩, ⟨by (with_reducible repeat (first | refine blk_drewN ?_ _ | refine blk_drew ?_ | refine blk_alloc ?_ _)); exact BK211.out⟩, ⟨by repeat (first | (with_reducible first | exact HB.out | apply below_alloc | apply pw_below_drewN | apply below_drew1 | refine below_set ?_ GE211.out) | exact HB.out)⟩⟩
                            · rw [if_neg c30] at H
                              have c30b0 : (x6_2 == ((rd_T38 l0_0 x5_2).f0)) = false := beq_eq_false_iff_ne.mpr c30
                              have c30b1 : (x6_2 != ((rd_T38 l0_0 x5_2).f0)) = true := bne_iff_ne.mpr c30
                              obtain rfl := Option.some.inj H
                              have hcz32_0 : wc.cell? ⟨gb211, 0, none⟩ = some (.slice A0_0 l0_0.length c0_0) := (blk_cell BK211.out 0).trans rfl
                              have hcz32_1 : wc.cell? ⟨gb211, 1, none⟩ = some (.int .i64 a0_1) := (blk_cell BK211.out 1).trans rfl
                              have hcz32_2 : wc.cell? ⟨gb211, 2, none⟩ = some (.int .i64 a0_2) := (blk_cell BK211.out 2).trans rfl
                              have hcz32_3 : wc.cell? ⟨gb211, 3, none⟩ = some (.slice A0_3 l0_3.length c0_3) := (blk_cell BK211.out 3).trans rfl
                              have hcz32_4 : wc.cell? ⟨gb211, 4, none⟩ = some (.int .i64 a0_4) := (blk_cell BK211.out 4).trans rfl
                              have hcz32_5 : wc.cell? ⟨gb211, 5, none⟩ = some (.int .i64 a0_5) := (blk_cell BK211.out 5).trans rfl
                              have hcz32_6 : wc.cell? ⟨gb211, 6, none⟩ = some (.int .i64 a0_6) := (blk_cell BK211.out 6).trans rfl
                              have hcz32_7 : wc.cell? ⟨gb211, 7, none⟩ = some (.int .i64 a0_7) := (blk_cell BK211.out 7).trans rfl
                              have hcz32_8 : wc.cell? ⟨gb211, 8, none⟩ = some (.int .i64 a0_8) := (blk_cell BK211.out 8).trans rfl
                              have hcz32_9 : wc.cell? ⟨gb211, 9, none⟩ = some (.int .i64 a0_9) := (blk_cell BK211.out 9).trans rfl
                              have hcz32_10 : wc.cell? ⟨gb211, 10, none⟩ = some (.int .i64 a0_10) := (blk_cell BK211.out 10).trans rfl
                              have hcz32_11 : wc.cell? ⟨gb211, 11, none⟩ = some (.int .i64 a0_11) := (blk_cell BK211.out 11).trans rfl
                              have hcz32_12 : wc.cell? ⟨gb211, 12, none⟩ = some (.int .i64 a0_12) := (blk_cell BK211.out 12).trans rfl
                              have hfz32_0 := blk_frozen BK211.out 0
                              have hfz32_1 := blk_frozen BK211.out 1
                              have hfz32_2 := blk_frozen BK211.out 2
                              have hfz32_3 := blk_frozen BK211.out 3
                              have hfz32_4 := blk_frozen BK211.out 4
                              have hfz32_5 := blk_frozen BK211.out 5
                              have hfz32_6 := blk_frozen BK211.out 6
                              have hfz32_7 := blk_frozen BK211.out 7
                              have hfz32_8 := blk_frozen BK211.out 8
                              have hfz32_9 := blk_frozen BK211.out 9
                              have hfz32_10 := blk_frozen BK211.out 10
                              have hfz32_11 := blk_frozen BK211.out 11
                              have hfz32_12 := blk_frozen BK211.out 12
                              have p218 : 0 ≤ (x5_2 : Int) := of_decide_eq_true (by first | (with_reducible assumption) | assumption)
                              have q218 : x5_2 < (l0_0.length : Int) := of_decide_eq_true (by first | (with_reducible assumption) | assumption)
                              obtain ⟨ad218, e218, hx218_0, hx218_1, hx218_2, hx218_3, hx218_4, hx218_5, hx218_6⟩ := at_T38 HR0_0.out x5_2 p218 q218
                              cases e218
                              replace hx218_0 := (HB.out.cell (World.block_lt_of_cell? w _ hx218_0)).trans hx218_0
                              replace hx218_1 := (HB.out.cell (World.block_lt_of_cell? w _ hx218_1)).trans hx218_1
                              replace hx218_2 := (HB.out.cell (World.block_lt_of_cell? w _ hx218_2)).trans hx218_2
                              replace hx218_3 := (HB.out.cell (World.block_lt_of_cell? w _ hx218_3)).trans hx218_3
                              replace hx218_4 := (HB.out.cell (World.block_lt_of_cell? w _ hx218_4)).trans hx218_4
                              replace hx218_5 := (HB.out.cell (World.block_lt_of_cell? w _ hx218_5)).trans hx218_5
                              replace hx218_6 := (HB.out.cell (World.block_lt_of_cell? w _ hx218_6)).trans hx218_6
                              replace p218 := eq_true p218
                              replace q218 := eq_true q218
                              go_wp2
                              go_ret
                              exact ⟨by first | rfl | (simp [errW_none, errW_some] <;> rfl) | (simp [*, errW_none, errW_some] <;> rfl), by repeat (first | (with_reducible first | exact HB.out | apply below_alloc | apply pw_below_drewN | apply below_drew1 | refine below_set ?_ GE211.out) | exact HB.out)⟩
                          · rw [if_neg c29] at H
                            exact absurd H (by simp)
                        · rw [if_neg c28] at H
                          exact absurd H (by simp)
              · rw [if_neg c16] at H
                have c16b0 : decide (x7_2 < t215) = false := decide_eq_false c16
                clear c16
                by_cases c33 : x5_2 = (wrap64 ((l0_0.length : Int) - 1))
                · rw [if_pos c33] at H
                  have c33b0 : (x5_2 == (wrap64 ((l0_0.length : Int) - 1))) = true := beq_iff_eq.mpr c33
                  have c33b1 : (x5_2 != (wrap64 ((l0_0.length : Int) - 1))) = false := bne_eq_false_iff_eq.mpr c33
                  clear c33
                  by_cases c34 : 0 ≤ x5_2
                  · rw [if_pos c34] at H
                    have c34b0 : decide (0 ≤ x5_2) = true := decide_eq_true c34
                    clear c34
                    by_cases c35 : x5_2 < (l0_0.length : Int)
                    · rw [if_pos c35] at H
                      have c35b0 : decide (x5_2 < (l0_0.length : Int)) = true := decide_eq_true c35
                      clear c35
                      obtain rfl := Option.some.inj H
                      have hcz36_0 : wr.cell? ⟨gb211, 0, none⟩ = some (.slice A0_0 l0_0.length c0_0) := (blk_cell BK211.out 0).trans rfl
                      have hcz36_1 : wr.cell? ⟨gb211, 1, none⟩ = some (.int .i64 a0_1) := (blk_cell BK211.out 1).trans rfl
                      have hcz36_2 : wr.cell? ⟨gb211, 2, none⟩ = some (.int .i64 a0_2) := (blk_cell BK211.out 2).trans rfl
                      have hcz36_3 : wr.cell? ⟨gb211, 3, none⟩ = some (.slice A0_3 l0_3.length c0_3) := (blk_cell BK211.out 3).trans rfl
                      have hcz36_4 : wr.cell? ⟨gb211, 4, none⟩ = some (.int .i64 a0_4) := (blk_cell BK211.out 4).trans rfl
                      have hcz36_5 : wr.cell? ⟨gb211, 5, none⟩ = some (.int .i64 a0_5) := (blk_cell BK211.out 5).trans rfl
                      have hcz36_6 : wr.cell? ⟨gb211, 6, none⟩ = some (.int .i64 a0_6) := (blk_cell BK211.out 6).trans rfl
                      have hcz36_7 : wr.cell? ⟨gb211, 7, none⟩ = some (.int .i64 a0_7) := (blk_cell BK211.out 7).trans rfl
                      have hcz36_8 : wr.cell? ⟨gb211, 8, none⟩ = some (.int .i64 a0_8) := (blk_cell BK211.out 8).trans rfl
                      have hcz36_9 : wr.cell? ⟨gb211, 9, none⟩ = some (.int .i64 a0_9) := (blk_cell BK211.out 9).trans rfl
                      have hcz36_10 : wr.cell? ⟨gb211, 10, none⟩ = some (.int .i64 a0_10) := (blk_cell BK211.out 10).trans rfl
                      have hcz36_11 : wr.cell? ⟨gb211, 11, none⟩ = some (.int .i64 a0_11) := (blk_cell BK211.out 11).trans rfl
                      have hcz36_12 : wr.cell? ⟨gb211, 12, none⟩ = some (.int .i64 a0_12) := (blk_cell BK211.out 12).trans rfl
                      have hfz36_0 := blk_frozen BK211.out 0
                      have hfz36_1 := blk_frozen BK211.out 1
                      have hfz36_2 := blk_frozen BK211.out 2
                      have hfz36_3 := blk_frozen BK211.out 3
                      have hfz36_4 := blk_frozen BK211.out 4
                      have hfz36_5 := blk_frozen BK211.out 5
                      have hfz36_6 := blk_frozen BK211.out 6
                      have hfz36_7 := blk_frozen BK211.out 7
                      have hfz36_8 := blk_frozen BK211.out 8
                      have hfz36_9 := blk_frozen BK211.out 9
                      have hfz36_10 := blk_frozen BK211.out 10
                      have hfz36_11 := blk_frozen BK211.out 11
                      have hfz36_12 := blk_frozen BK211.out 12
                      go_wp2_with (first | ((with_reducible refine gate_callee (f := 22) rfl ?_); refine goesL_ (some 23) rfl rfl Try.func22 (by kernel_rfl) rfl #[.agg #[.slice A0_0 l0_0.length c0_0, .int .i64 a0_1, .int .i64 a0_2, .slice A0_3 l0_3.length c0_3, .int .i64 a0_4, .int .i64 a0_5, .int .i64 a0_6, .int .i64 a0_7, .int .i64 a0_8, .int .i64 a0_9, .int .i64 a0_10, .int .i64 a0_11, .int .i64 a0_12]] rfl (by (try simp only [List.map_toArray, List.map_cons, List.map_nil]); first | done | rfl | (simp only [List.length_drop, List.length_take]; rfl)) ?_; (with_reducible refine (conf_Cars.calls k2 _ _ l0_0 a0_1 a0_2 _ _ l0_3 a0_4 a0_5 a0_6 a0_7 a0_8 a0_9 a0_10 a0_11 a0_12 t215 _ ?side1 ?side2 ?side3 ?side4 A15.out).mono ?_); (case side1 => repeat (first | exact (Kd.C_below HR0_0.out HB.out) | (with_reducible refine Kd.C_alloc ?_ _) | (with_reducible refine Kd.C_drewN ?_ _) | (with_reducible refine Kd.C_drew ?_))); (case side2 => exact HC0_0.out); (case side3 => repeat (first | exact (Kd.C_below HR0_3.out HB.out) | (with_reducible refine Kd.C_alloc ?_ _) | (with_reducible refine Kd.C_drewN ?_ _) | (with_reducible refine Kd.C_drew ?_))); (case side4 => exact HC0_3.out); rintro e w37 ⟨rfl, hb⟩; refine ⟨_, rfl, ?_⟩; have n0_ := Aside0.mk (blk_below (g := gb211) (o := .cells #[.slice A0_0 l0_0.length c0_0, .int .i64 a0_1, .int .i64 a0_2, .slice A0_3 l0_3.length c0_3, .int .i64 a0_4, .int .i64 a0_5, .int .i64 a0_6, .int .i64 a0_7, .int .i64 a0_8, .int .i64 a0_9, .int .i64 a0_10, .int .i64 a0_11, .int .i64 a0_12] 25 (0, 0)) (by (with_reducible repeat (first | refine blk_drewN ?_ _ | refine blk_drew ?_ | refine blk_alloc ?_ _)); exact BK211.out) hb); have n1_ := Aside0.mk (below_step (by repeat (first | (with_reducible first | exact HB.out | apply below_alloc | apply pw_below_drewN | apply below_drew1 | refine below_set ?_ GE211.out) | exact HB.out)) hb); clear BK211; clear HB; have BK211 := n0_; have HB := n1_; clear n0_ n1_; (try clear hb); (try clear hb2); (try clear hk); (try clear hi); have hcz38_0 : w37.cell? ⟨gb211, 0, none⟩ = some (.slice A0_0 l0_0.length c0_0) := (blk_cell BK211.out 0).trans rfl; have hcz38_1 : w37.cell? ⟨gb211, 1, none⟩ = some (.int .i64 a0_1) := (blk_cell BK211.out 1).trans rfl; have hcz38_2 : w37.cell? ⟨gb211, 2, none⟩ = some (.int .i64 a0_2) := (blk_cell BK211.out 2).trans rfl; have hcz38_3 : w37.cell? ⟨gb211, 3, none⟩ = some (.slice A0_3 l0_3.length c0_3) := (blk_cell BK211.out 3).trans rfl; have hcz38_4 : w37.cell? ⟨gb211, 4, none⟩ = some (.int .i64 a0_4) := (blk_cell BK211.out 4).trans rfl; have hcz38_5 : w37.cell? ⟨gb211, 5, none⟩ = some (.int .i64 a0_5) := (blk_cell BK211.out 5).trans rfl; have hcz38_6 : w37.cell? ⟨gb211, 6, none⟩ = some (.int .i64 a0_6) := (blk_cell BK211.out 6).trans rfl; have hcz38_7 : w37.cell? ⟨gb211, 7, none⟩ = some (.int .i64 a0_7) := (blk_cell BK211.out 7).trans rfl; have hcz38_8 : w37.cell? ⟨gb211, 8, none⟩ = some (.int .i64 a0_8) := (blk_cell BK211.out 8).trans rfl; have hcz38_9 : w37.cell? ⟨gb211, 9, none⟩ = some (.int .i64 a0_9) := (blk_cell BK211.out 9).trans rfl; have hcz38_10 : w37.cell? ⟨gb211, 10, none⟩ = some (.int .i64 a0_10) := (blk_cell BK211.out 10).trans rfl; have hcz38_11 : w37.cell? ⟨gb211, 11, none⟩ = some (.int .i64 a0_11) := (blk_cell BK211.out 11).trans rfl; have hcz38_12 : w37.cell? ⟨gb211, 12, none⟩ = some (.int .i64 a0_12) := (blk_cell BK211.out 12).trans rfl; have hfz38_0 := blk_frozen BK211.out 0; have hfz38_1 := blk_frozen BK211.out 1; have hfz38_2 := blk_frozen BK211.out 2; have hfz38_3 := blk_frozen BK211.out 3; have hfz38_4 := blk_frozen BK211.out 4; have hfz38_5 := blk_frozen BK211.out 5; have hfz38_6 := blk_frozen BK211.out 6; have hfz38_7 := blk_frozen BK211.out 7; have hfz38_8 := blk_frozen BK211.out 8; have hfz38_9 := blk_frozen BK211.out 9; have hfz38_10 := blk_frozen BK211.out 10; have hfz38_11 := blk_frozen BK211.out 11; have hfz38_12 := blk_frozen BK211.out 12; have p216 : 0 ≤ (x5_2 : Int) := of_decide_eq_true (by first | (with_reducible assumption) | assumption); have q216 : x5_2 < (l0_0.length : Int) := of_decide_eq_true (by first | (with_reducible assumption) | assumption); obtain ⟨ad216, e216, hx216_0, hx216_1, hx216_2, hx216_3, hx216_4, hx216_5, hx216_6⟩ := at_T38 HR0_0.out x5_2 p216 q216; cases e216; replace hx216_0 := (HB.out.cell (World.block_lt_of_cell? w _ hx216_0)).trans hx216_0; replace hx216_1 := (HB.out.cell (World.block_lt_of_cell? w _ hx216_1)).trans hx216_1; replace hx216_2 := (HB.out.cell (World.block_lt_of_cell? w _ hx216_2)).trans hx216_2; replace hx216_3 := (HB.out.cell (World.block_lt_of_cell? w _ hx216_3)).trans hx216_3; replace hx216_4 := (HB.out.cell (World.block_lt_of_cell? w _ hx216_4)).trans hx216_4; replace hx216_5 := (HB.out.cell (World.block_lt_of_cell? w _ hx216_5)).trans hx216_5; replace hx216_6 := (HB.out.cell (World.block_lt_of_cell? w _ hx216_6)).trans hx216_6; replace p216 := eq_true p216; replace q216 := eq_true q216))
                      go_ret
                      exact ⟨by first | rfl | (simp [errW_none, errW_some] <;> rfl) | (simp [*, errW_none, errW_some] <;> rfl), by repeat (first | (with_reducible first | exact HB.out | apply below_alloc | apply pw_below_drewN | apply below_drew1 | refine below_set ?_ GE211.out) | exact HB.out)⟩
                    · rw [if_neg c35] at H
                      exact absurd H (by simp)
                  · rw [if_neg c34] at H
                    exact absurd H (by simp)
                · rw [if_neg c33] at H
                  have c33b0 : (x5_2 == (wrap64 ((l0_0.length : Int) - 1))) = false := beq_eq_false_iff_ne.mpr c33
                  have c33b1 : (x5_2 != (wrap64 ((l0_0.length : Int) - 1))) = true := bne_iff_ne.mpr c33
                  obtain rfl := Option.some.inj H
                  have hcz39_0 : wr.cell? ⟨gb211, 0, none⟩ = some (.slice A0_0 l0_0.length c0_0) := (blk_cell BK211.out 0).trans rfl
                  have hcz39_1 : wr.cell? ⟨gb211, 1, none⟩ = some (.int .i64 a0_1) := (blk_cell BK211.out 1).trans rfl
                  have hcz39_2 : wr.cell? ⟨gb211, 2, none⟩ = some (.int .i64 a0_2) := (blk_cell BK211.out 2).trans rfl
                  have hcz39_3 : wr.cell? ⟨gb211, 3, none⟩ = some (.slice A0_3 l0_3.length c0_3) := (blk_cell BK211.out 3).trans rfl
                  have hcz39_4 : wr.cell? ⟨gb211, 4, none⟩ = some (.int .i64 a0_4) := (blk_cell BK211.out 4).trans rfl
                  have hcz39_5 : wr.cell? ⟨gb211, 5, none⟩ = some (.int .i64 a0_5) := (blk_cell BK211.out 5).trans rfl
                  have hcz39_6 : wr.cell? ⟨gb211, 6, none⟩ = some (.int .i64 a0_6) := (blk_cell BK211.out 6).trans rfl
                  have hcz39_7 : wr.cell? ⟨gb211, 7, none⟩ = some (.int .i64 a0_7) := (blk_cell BK211.out 7).trans rfl
                  have hcz39_8 : wr.cell? ⟨gb211, 8, none⟩ = some (.int .i64 a0_8) := (blk_cell BK211.out 8).trans rfl
                  have hcz39_9 : wr.cell? ⟨gb211, 9, none⟩ = some (.int .i64 a0_9) := (blk_cell BK211.out 9).trans rfl
                  have hcz39_10 : wr.cell? ⟨gb211, 10, none⟩ = some (.int .i64 a0_10) := (blk_cell BK211.out 10).trans rfl
                  have hcz39_11 : wr.cell? ⟨gb211, 11, none⟩ = some (.int .i64 a0_11) := (blk_cell BK211.out 11).trans rfl
                  have hcz39_12 : wr.cell? ⟨gb211, 12, none⟩ = some (.int .i64 a0_12) := (blk_cell BK211.out 12).trans rfl
                  have hfz39_0 := blk_frozen BK211.out 0
                  have hfz39_1 := blk_frozen BK211.out 1
                  have hfz39_2 := blk_frozen BK211.out 2
                  have hfz39_3 := blk_frozen BK211.out 3
                  have hfz39_4 := blk_frozen BK211.out 4
                  have hfz39_5 := blk_frozen BK211.out 5
                  have hfz39_6 := blk_frozen BK211.out 6
                  have hfz39_7 := blk_frozen BK211.out 7
                  have hfz39_8 := blk_frozen BK211.out 8
                  have hfz39_9 := blk_frozen BK211.out 9
                  have hfz39_10 := blk_frozen BK211.out 10
                  have hfz39_11 := blk_frozen BK211.out 11
                  have hfz39_12 := blk_frozen BK211.out 12
                  go_wp2_with (first | ((with_reducible refine gate_callee (f := 22) rfl ?_); refine goesL_ (some 23) rfl rfl Try.func22 (by kernel_rfl) rfl #[.agg #[.slice A0_0 l0_0.length c0_0, .int .i64 a0_1, .int .i64 a0_2, .slice A0_3 l0_3.length c0_3, .int .i64 a0_4, .int .i64 a0_5, .int .i64 a0_6, .int .i64 a0_7, .int .i64 a0_8, .int .i64 a0_9, .int .i64 a0_10, .int .i64 a0_11, .int .i64 a0_12]] rfl (by (try simp only [List.map_toArray, List.map_cons, List.map_nil]); first | done | rfl | (simp only [List.length_drop, List.length_take]; rfl)) ?_; (with_reducible refine (conf_Cars.calls k2 _ _ l0_0 a0_1 a0_2 _ _ l0_3 a0_4 a0_5 a0_6 a0_7 a0_8 a0_9 a0_10 a0_11 a0_12 t215 _ ?side1 ?side2 ?side3 ?side4 A15.out).mono ?_); (case side1 => repeat (first | exact (Kd.C_below HR0_0.out HB.out) | (with_reducible refine Kd.C_alloc ?_ _) | (with_reducible refine Kd.C_drewN ?_ _) | (with_reducible refine Kd.C_drew ?_))); (case side2 => exact HC0_0.out); (case side3 => repeat (first | exact (Kd.C_below HR0_3.out HB.out) | (with_reducible refine Kd.C_alloc ?_ _) | (with_reducible refine Kd.C_drewN ?_ _) | (with_reducible refine Kd.C_drew ?_))); (case side4 => exact HC0_3.out); rintro e w40 ⟨rfl, hb⟩; refine ⟨_, rfl, ?_⟩; have n0_ := Aside0.mk (blk_below (g := gb211) (o := .cells #[.slice A0_0 l0_0.length c0_0, .int .i64 a0_1, .int .i64 a0_2, .slice A0_3 l0_3.length c0_3, .int .i64 a0_4, .int .i64 a0_5, .int .i64 a0_6, .int .i64 a0_7, .int .i64 a0_8, .int .i64 a0_9, .int .i64 a0_10, .int .i64 a0_11, .int .i64 a0_12] 25 (0, 0)) (by (with_reducible repeat (first | refine blk_drewN ?_ _ | refine blk_drew ?_ | refine blk_alloc ?_ _)); exact BK211.out) hb); have n1_ := Aside0.mk (below_step (by repeat (first | (with_reducible first | exact HB.out | apply below_alloc | apply pw_below_drewN | apply below_drew1 | refine below_set ?_ GE211.out) | exact HB.out)) hb); clear BK211; clear HB; have BK211 := n0_; have HB := n1_; clear n0_ n1_; (try clear hb); (try clear hb2); (try clear hk); (try clear hi); have hcz41_0 : w40.cell? ⟨gb211, 0, none⟩ = some (.slice A0_0 l0_0.length c0_0) := (blk_cell BK211.out 0).trans rfl; have hcz41_1 : w40.cell? ⟨gb211, 1, none⟩ = some (.int .i64 a0_1) := (blk_cell BK211.out 1).trans rfl; have hcz41_2 : w40.cell? ⟨gb211, 2, none⟩ = some (.int .i64 a0_2) := (blk_cell BK211.out 2).trans rfl; have hcz41_3 : w40.cell? ⟨gb211, 3, none⟩ = some (.slice A0_3 l0_3.length c0_3) := (blk_cell BK211.out 3).trans rfl; have hcz41_4 : w40.cell? ⟨gb211, 4, none⟩ = some (.int .i64 a0_4) := (blk_cell BK211.out 4).trans rfl; have hcz41_5 : w40.cell? ⟨gb211, 5, none⟩ = some (.int .i64 a0_5) := (blk_cell BK211.out 5).trans rfl; have hcz41_6 : w40.cell? ⟨gb211, 6, none⟩ = some (.int .i64 a0_6) := (blk_cell BK211.out 6).trans rfl; have hcz41_7 : w40.cell? ⟨gb211, 7, none⟩ = some (.int .i64 a0_7) := (blk_cell BK211.out 7).trans rfl; have hcz41_8 : w40.cell? ⟨gb211, 8, none⟩ = some (.int .i64 a0_8) := (blk_cell BK211.out 8).trans rfl; have hcz41_9 : w40.cell? ⟨gb211, 9, none⟩ = some (.int .i64 a0_9) := (blk_cell BK211.out 9).trans rfl; have hcz41_10 : w40.cell? ⟨gb211, 10, none⟩ = some (.int .i64 a0_10) := (blk_cell BK211.out 10).trans rfl; have hcz41_11 : w40.cell? ⟨gb211, 11, none⟩ = some (.int .i64 a0_11) := (blk_cell BK211.out 11).trans rfl; have hcz41_12 : w40.cell? ⟨gb211, 12, none⟩ = some (.int .i64 a0_12) := (blk_cell BK211.out 12).trans rfl; have hfz41_0 := blk_frozen BK211.out 0; have hfz41_1 := blk_frozen BK211.out 1; have hfz41_2 := blk_frozen BK211.out 2; have hfz41_3 := blk_frozen BK211.out 3; have hfz41_4 := blk_frozen BK211.out 4; have hfz41_5 := blk_frozen BK211.out 5; have hfz41_6 := blk_frozen BK211.out 6; have hfz41_7 := blk_frozen BK211.out 7; have hfz41_8 := blk_frozen BK211.out 8; have hfz41_9 := blk_frozen BK211.out 9; have hfz41_10 := blk_frozen BK211.out 10; have hfz41_11 := blk_frozen BK211.out 11; have hfz41_12 := blk_frozen BK211.out 12))
                  go_ret
                  exact ⟨by first | rfl | (simp [errW_none, errW_some] <;> rfl) | (simp [*, errW_none, errW_some] <;> rfl), by repeat (first | (with_reducible first | exact HB.out | apply below_alloc | apply pw_below_drewN | apply below_drew1 | refine below_set ?_ GE211.out) | exact HB.out)⟩
  · replace c3 := Bool.eq_false_iff.mpr c3
    subst c3
    have H1 : (some false) = some r := by rw [if_neg (show ¬ (false = true) by decide)] at H; exact H
    clear H
    have H := H1
    clear H1
    obtain rfl := Option.some.inj H
    go_enter Try.func4, Try.ntmps4
    go_wp2_with (first | ((with_reducible refine gate_dst (N := 1) rfl ?_); (try (refine gate_guard (by rfl) ?_; dsimp only)); refine box_event ?hg (N := 1) ?hd (cs := #[.slice A0_0 l0_0.length c0_0, .int .i64 a0_1, .int .i64 a0_2, .slice A0_3 l0_3.length c0_3, .int .i64 a0_4, .int .i64 a0_5, .int .i64 a0_6, .int .i64 a0_7, .int .i64 a0_8, .int .i64 a0_9, .int .i64 a0_10, .int .i64 a0_11, .int .i64 a0_12]) (t := 25) ?hr ?_; (case hd => rfl); (case hg => rfl); (case hr => first | (go_simp; done) | (go_simp; rfl)); intro gb211 hg w42 hbox hb; have n0_ := Aside0.mk (below_step (by repeat (first | (with_reducible first | exact HB.out | apply below_alloc | apply pw_below_drewN | apply below_drew1) | exact HB.out)) hb); have n1_ := Aside0.mk (hbox); have n2_ := Aside0.mk ((by rw [hg]; exact (below_size (by repeat (first | (with_reducible first | exact HB.out | apply below_alloc | apply pw_below_drewN | apply below_drew1) | exact HB.out))) : w.heap.size ≤ gb211)); have n3_ := Aside0.mk ((by rw [hg]; exact (below_size (by repeat (first | (with_reducible first | exact HB.out | apply below_alloc | apply pw_below_drewN | apply below_drew1) | exact HB.out))) : w.heap.size ≤ gb211)); clear HB; have HB := n0_; have BK211 := n1_; have GW211 := n2_; have GE211 := n3_; clear n0_ n1_ n2_ n3_; clear hb hbox hg) | ((with_reducible refine gate_callee (f := 17) rfl ?_); refine goesL_ (some 9) rfl rfl Try.func17 (by kernel_rfl) rfl #[] rfl (by (try simp only [List.map_toArray, List.map_cons, List.map_nil]); first | done | rfl | (simp only [List.length_drop, List.length_take]; rfl)) ?_; (with_reducible refine (paternosterlaw05_awake.calls  false _ A2.out).mono ?_); rintro e w43 ⟨rfl, hb⟩; refine ⟨_, rfl, ?_⟩; have n0_ := Aside0.mk (blk_below (g := gb211) (o := .cells #[.slice A0_0 l0_0.length c0_0, .int .i64 a0_1, .int .i64 a0_2, .slice A0_3 l0_3.length c0_3, .int .i64 a0_4, .int .i64 a0_5, .int .i64 a0_6, .int .i64 a0_7, .int .i64 a0_8, .int .i64 a0_9, .int .i64 a0_10, .int .i64 a0_11, .int .i64 a0_12] 25 (0, 0)) (by (with_reducible repeat (first | refine blk_drewN ?_ _ | refine blk_drew ?_ | refine blk_alloc ?_ _)); exact BK211.out) hb); have n1_ := Aside0.mk (below_step (by repeat (first | (with_reducible first | exact HB.out | apply below_alloc | apply pw_below_drewN | apply below_drew1 | refine below_set ?_ GE211.out) | exact HB.out)) hb); clear BK211; clear HB; have BK211 := n0_; have HB := n1_; clear n0_ n1_; (try clear hb); (try clear hb2); (try clear hk); (try clear hi)))
    go_ret
    exact ⟨by first | rfl | (simp [errW_none, errW_some] <;> rfl) | (simp [*, errW_none, errW_some] <;> rfl), by repeat (first | (with_reducible first | exact HB.out | apply below_alloc | apply pw_below_drewN | apply below_drew1 | refine below_set ?_ GE211.out) | exact HB.out)⟩

end Go.Proofs.Ytomaojmccchibaa.X
