/- Texts of this seat in one: ConfRules, ConfIndex, ConfOrd. -/
import Derived.Test.YtomaojmccchibaaXx8
import Derived.Test.YtomaojmccchibaaRatesPlain
import Derived.Tactics2
import Derived.Laws.Pointers
import Derived.Maps.OwnOps
import Derived.Maps.OwnSet
/- What must hold of a group, rule by rule. -/
namespace Go.Proofs.Ytomaojmccchibaa.X
open Go.RowKit Go.Proofs.YtomaojmccchibaaW.PrintWords Go.Proofs.YtomaojmccchibaaW.PrintLast Go.Proofs.YtomaojmccchibaaW.PrintMore
set_option linter.unusedVariables false
set_option linter.unusedSimpArgs false

/-- Within bounds. -/
def inV (x a b : Int) : Bool := decide (a ≤ x) && decide (x ≤ b)
theorem in_any (x a b : Int) (w : World) : Calls Try.prog 62 #[.int .i64 x, .int .i64 a, .int .i64 b] w fun e w' => e = .returned (.bool (inV x a b)) ∧ Drawn0 w w' := by
  refine conf_in.calls x a b (inV x a b) w ?_
  unfold conf_in.f inV
  by_cases h : x ≥ a
  · rw [if_pos h, decide_eq_true (show a ≤ x from h), Bool.true_and]
  · rw [if_neg h, decide_eq_false (show ¬ a ≤ x from h), Bool.false_and]
theorem in_b {x a b : Int} {r : Bool} (h : inV x a b = r) (w : World) : Calls Try.prog 62 #[.int .i64 x, .int .i64 a, .int .i64 b] w fun e w' => e = .returned (.bool r) ∧ Drawn0 w w' := by
  subst h; exact in_any x a b w
theorem rates_any (r : S36) (w : World) : Calls Try.prog 28 #[.agg #[.int .i64 r.f0, .int .i64 r.f1, .int .i64 r.f2, .int .i64 r.f3, .int .i64 r.f4, .int .i64 r.f5]] w fun e w' => e = .returned (.bool (decide (Ok r))) ∧ Below w.heap.size w w' :=
  rates_Check.calls _ _ _ _ _ _ _ w (check_f r)
/-- A group as a value. -/
def confV (A B : Option Addr) (n cn m cm : Nat) (x1 x2 x4 x5 x6 x7 x8 x9 x10 x11 x12 : Int) : Value :=
  .agg #[.slice A n cn, .int .i64 x1, .int .i64 x2, .slice B m cm, .int .i64 x4, .int .i64 x5, .int .i64 x6, .int .i64 x7, .int .i64 x8, .int .i64 x9, .int .i64 x10, .int .i64 x11, .int .i64 x12]
section
variable (A B : Option Addr) (n cn m cm : Nat) (x1 x2 x4 x5 x6 x7 x8 x9 x10 x11 x12 : Int) (w : World)
set_option maxRecDepth 100000 in
theorem rule1 : Calls Try.prog 61 #[confV A B n cn m cm x1 x2 x4 x5 x6 x7 x8 x9 x10 x11 x12] w fun e w' => e = .returned (.bool (inV n 1 8)) ∧ Below w.heap.size w w' := by
  unfold confV
  obtain ⟨b0, h0⟩ : ∃ b, inV n 1 8 = b := ⟨_, rfl⟩
  rw [h0]
  have H0 := Aside0.mk h0
  clear h0
  go_enter Try.func61, Try.ntmps61
  go_wp2_with (first | (go_at_call 62; with_reducible refine (in_b (x := n) (a := 1) (b := 8) H0.out _).mono ?_; rintro e w1 ⟨rfl, nd, rfl⟩))
  go_ret
  exact ⟨rfl, by repeat (with_reducible first | exact Below.refl _ _ | apply below_alloc | apply pw_below_drewN | apply below_drew1)⟩
set_option maxRecDepth 100000 in
theorem rule3 : Calls Try.prog 66 #[confV A B n cn m cm x1 x2 x4 x5 x6 x7 x8 x9 x10 x11 x12] w fun e w' => e = .returned (.bool (inV x1 2 32 && inV x2 0 (wrap64 (x1 - 1)))) ∧ Below w.heap.size w w' := by
  unfold confV
  obtain ⟨b0, h0⟩ : ∃ b, inV x1 2 32 = b := ⟨_, rfl⟩
  rw [h0]
  have H0 := Aside0.mk h0
  clear h0
  obtain ⟨b1, h1⟩ : ∃ b, inV x2 0 (wrap64 (x1 - 1)) = b := ⟨_, rfl⟩
  rw [h1]
  have H1 := Aside0.mk h1
  clear h1
  cases b0 with
  | false =>
    go_enter Try.func66, Try.ntmps66
    go_wp2_with (first | (go_at_call 62; with_reducible refine (in_b (x := x1) (a := 2) (b := 32) H0.out _).mono ?_; rintro e w1 ⟨rfl, nd, rfl⟩))
    go_ret
    exact ⟨rfl, by repeat (with_reducible first | exact Below.refl _ _ | apply below_alloc | apply pw_below_drewN | apply below_drew1)⟩
  | true =>
    go_enter Try.func66, Try.ntmps66
    go_wp2_with (first | (go_at_call 62; with_reducible refine (in_b (x := x1) (a := 2) (b := 32) H0.out _).mono ?_; rintro e w1 ⟨rfl, nd, rfl⟩) | (go_at_call 62; with_reducible refine (in_b (x := x2) (a := 0) (b := (wrap64 (x1 - 1))) H1.out _).mono ?_; rintro e w1 ⟨rfl, nd, rfl⟩))
    go_ret
    exact ⟨rfl, by repeat (with_reducible first | exact Below.refl _ _ | apply below_alloc | apply pw_below_drewN | apply below_drew1)⟩
set_option maxRecDepth 100000 in
theorem rule4 : Calls Try.prog 67 #[confV A B n cn m cm x1 x2 x4 x5 x6 x7 x8 x9 x10 x11 x12] w fun e w' => e = .returned (.bool (inV x4 1 8 && inV x5 1 16)) ∧ Below w.heap.size w w' := by
  unfold confV
  obtain ⟨b0, h0⟩ : ∃ b, inV x4 1 8 = b := ⟨_, rfl⟩
  rw [h0]
  have H0 := Aside0.mk h0
  clear h0
  obtain ⟨b1, h1⟩ : ∃ b, inV x5 1 16 = b := ⟨_, rfl⟩
  rw [h1]
  have H1 := Aside0.mk h1
  clear h1
  cases b0 with
  | false =>
    go_enter Try.func67, Try.ntmps67
    go_wp2_with (first | (go_at_call 62; with_reducible refine (in_b (x := x4) (a := 1) (b := 8) H0.out _).mono ?_; rintro e w1 ⟨rfl, nd, rfl⟩))
    go_ret
    exact ⟨rfl, by repeat (with_reducible first | exact Below.refl _ _ | apply below_alloc | apply pw_below_drewN | apply below_drew1)⟩
  | true =>
    go_enter Try.func67, Try.ntmps67
    go_wp2_with (first | (go_at_call 62; with_reducible refine (in_b (x := x4) (a := 1) (b := 8) H0.out _).mono ?_; rintro e w1 ⟨rfl, nd, rfl⟩) | (go_at_call 62; with_reducible refine (in_b (x := x5) (a := 1) (b := 16) H1.out _).mono ?_; rintro e w1 ⟨rfl, nd, rfl⟩))
    go_ret
    exact ⟨rfl, by repeat (with_reducible first | exact Below.refl _ _ | apply below_alloc | apply pw_below_drewN | apply below_drew1)⟩
set_option maxRecDepth 100000 in
theorem rule6 : Calls Try.prog 71 #[confV A B n cn m cm x1 x2 x4 x5 x6 x7 x8 x9 x10 x11 x12] w fun e w' => e = .returned (.bool (inV x9 0 8 && inV x11 0 100 && inV x12 0 1048576)) ∧ Below w.heap.size w w' := by
  unfold confV
  obtain ⟨b0, h0⟩ : ∃ b, inV x9 0 8 = b := ⟨_, rfl⟩
  rw [h0]
  have H0 := Aside0.mk h0
  clear h0
  obtain ⟨b1, h1⟩ : ∃ b, inV x11 0 100 = b := ⟨_, rfl⟩
  rw [h1]
  have H1 := Aside0.mk h1
  clear h1
  obtain ⟨b2, h2⟩ : ∃ b, inV x12 0 1048576 = b := ⟨_, rfl⟩
  rw [h2]
  have H2 := Aside0.mk h2
  clear h2
  cases b0 with
  | false =>
    go_enter Try.func71, Try.ntmps71
    go_wp2_with (first | (go_at_call 62; with_reducible refine (in_b (x := x9) (a := 0) (b := 8) H0.out _).mono ?_; rintro e w1 ⟨rfl, nd, rfl⟩))
    go_ret
    exact ⟨rfl, by repeat (with_reducible first | exact Below.refl _ _ | apply below_alloc | apply pw_below_drewN | apply below_drew1)⟩
  | true =>
    cases b1 with
    | false =>
      go_enter Try.func71, Try.ntmps71
      go_wp2_with (first | (go_at_call 62; with_reducible refine (in_b (x := x9) (a := 0) (b := 8) H0.out _).mono ?_; rintro e w1 ⟨rfl, nd, rfl⟩) | (go_at_call 62; with_reducible refine (in_b (x := x11) (a := 0) (b := 100) H1.out _).mono ?_; rintro e w1 ⟨rfl, nd, rfl⟩))
      go_ret
      exact ⟨rfl, by repeat (with_reducible first | exact Below.refl _ _ | apply below_alloc | apply pw_below_drewN | apply below_drew1)⟩
    | true =>
      go_enter Try.func71, Try.ntmps71
      go_wp2_with (first | (go_at_call 62; with_reducible refine (in_b (x := x9) (a := 0) (b := 8) H0.out _).mono ?_; rintro e w1 ⟨rfl, nd, rfl⟩) | (go_at_call 62; with_reducible refine (in_b (x := x11) (a := 0) (b := 100) H1.out _).mono ?_; rintro e w1 ⟨rfl, nd, rfl⟩) | (go_at_call 62; with_reducible refine (in_b (x := x12) (a := 0) (b := 1048576) H2.out _).mono ?_; rintro e w1 ⟨rfl, nd, rfl⟩))
      go_ret
      exact ⟨rfl, by repeat (with_reducible first | exact Below.refl _ _ | apply below_alloc | apply pw_below_drewN | apply below_drew1)⟩
end
end Go.Proofs.Ytomaojmccchibaa.X
/- Whether one of a row is bad: slices.ContainsFunc over banks, and over whole numbers. -/
namespace Go.Proofs.Ytomaojmccchibaa.X
open Go.RowKit Go.Proofs.YtomaojmccchibaaW.PrintWords Go.Proofs.YtomaojmccchibaaW.PrintLast Go.Proofs.YtomaojmccchibaaW.PrintMore
set_option linter.unusedVariables false
set_option linter.unusedSimpArgs false

/-- A bank that may not be. -/
def badB (b : S38) : Bool := !inV b.f0 1 8 || !decide (Ok b.f1)
/-- A number of ticks that may not be. -/
def badI (x : Int) : Bool := !inV x 1 200
theorem any_succ {α : Type} {l : List α} {f : α → Bool} {k : Nat} (hk : k < l.length) : (l.take (k + 1)).any f = ((l.take k).any f || f l[k]) := by
  rw [List.take_succ_eq_append_getElem hk, List.any_append]; simp
theorem any_at {α : Type} {l : List α} {f : α → Bool} {k : Nat} (hk : k < l.length) (h : f l[k] = true) : l.any f = true :=
  List.any_eq_true.2 ⟨l[k], List.getElem_mem _, h⟩
theorem rdT_at {l : List S38} {k : Nat} (hk : k < l.length) : rd_T38 l (k : Int) = l[k] := by
  unfold rd_T38; rw [Int.toNat_natCast, List.getD_eq_getElem?_getD, List.getElem?_eq_getElem hk]; rfl
theorem rdI_at {l : List Int} {k : Nat} (hk : k < l.length) : rd l (k : Int) = l[k] := by
  unfold rd; rw [Int.toNat_natCast, List.getD_eq_getElem?_getD, List.getElem?_eq_getElem hk]; rfl
set_option maxRecDepth 100000 in
theorem bad_bank (b : S38) (r : Bool) (h : badB b = r) (w : World) : Calls Try.prog 65 #[.agg #[.int .i64 b.f0, .int .i64 b.f1.f0, .int .i64 b.f1.f1, .int .i64 b.f1.f2, .int .i64 b.f1.f3, .int .i64 b.f1.f4, .int .i64 b.f1.f5]] w fun e w' => e = .returned (.bool r) ∧ Below w.heap.size w w' := by
  subst h
  unfold badB
  obtain ⟨b0, h0⟩ : ∃ q, inV b.f0 1 8 = q := ⟨_, rfl⟩
  rw [h0]
  have H0 := Aside0.mk h0
  clear h0
  cases b0 with
  | false =>
    go_enter Try.func65, Try.ntmps65
    go_wp2_with (first | (go_at_call 62; with_reducible refine (in_b (x := b.f0) (a := 1) (b := 8) H0.out _).mono ?_; rintro e w1 ⟨rfl, nd, rfl⟩))
    go_ret
    exact ⟨rfl, by repeat (with_reducible first | exact Below.refl _ _ | apply below_alloc | apply pw_below_drewN | apply below_drew1)⟩
  | true =>
    go_enter Try.func65, Try.ntmps65
    go_wp2_with (first | (go_at_call 62; with_reducible refine (in_b (x := b.f0) (a := 1) (b := 8) H0.out _).mono ?_; rintro e w1 ⟨rfl, nd, rfl⟩) | (go_at_call 28; with_reducible refine (rates_any b.f1 _).mono ?_; rintro e w1 ⟨rfl, hb⟩; have HB := Aside0.mk hb; clear hb))
    go_ret
    exact ⟨rfl, below_step (by repeat (with_reducible first | exact Below.refl _ _ | apply below_alloc | apply pw_below_drewN | apply below_drew1)) HB.out⟩
theorem bad_int (x : Int) (r : Bool) (h : badI x = r) (w : World) : Calls Try.prog 70 #[.int .i64 x] w fun e w' => e = .returned (.bool r) ∧ Below w.heap.size w w' := by
  subst h
  unfold badI
  go_enter Try.func70, Try.ntmps70
  go_wp2_with (first | (go_at_call 62; with_reducible refine (in_any x 1 200 _).mono ?_; rintro e w1 ⟨rfl, nd, rfl⟩))
  go_ret
  exact ⟨rfl, by repeat (with_reducible first | exact Below.refl _ _ | apply below_alloc | apply pw_below_drewN | apply below_drew1)⟩
set_option maxRecDepth 100000 in
set_option maxHeartbeats 4000000 in
theorem index_bank (A : Option Addr) (c : Nat) (l : List S38) (w : World) (hr : Kd.C k38 w A l.length l) (hl : l.length ≤ 1000) :
    Calls Try.prog 79 #[.slice A l.length c, .func (.func 65) #[] #[]] w fun e w' => (∃ r : Int, e = .returned (.int .i64 r) ∧ decide (0 ≤ r) = l.any badB) ∧ Below w.heap.size w w' := by
  have HR := Aside0.mk hr
  have HB := Aside0.mk (Below.refl w.heap.size w)
  clear hr
  go_enter Try.func79, Try.ntmps79
  go_wp2
  go_loopw [8] (fun i wr => ∃ k : Nat, k ≤ l.length ∧ i = .int .i64 k ∧ Aside0 ((l.take k).any badB = false) ∧ Aside0 (Below w.heap.size w wr)) (fun i _ => l.length - (intOf i).toNat)
  case atStart => exact ⟨0, Nat.zero_le _, rfl, ⟨rfl⟩, HB⟩
  case round =>
    clear HB
    obtain ⟨k, hk, rfl, HA, HB⟩ := hrel
    by_cases hlt : k < l.length
    · have p1 : 0 ≤ (k : Int) := Int.natCast_nonneg _
      have q1 : (k : Int) < (l.length : Int) := by omega
      have q2 : (k : Int) < 1000 := by omega
      obtain ⟨ad, e1, hx0, hx1, hx2, hx3, hx4, hx5, hx6⟩ := at_T38 HR.out (k : Int) p1 q1
      cases e1
      replace hx0 := (HB.out.cell (World.block_lt_of_cell? w _ hx0)).trans hx0
      replace hx1 := (HB.out.cell (World.block_lt_of_cell? w _ hx1)).trans hx1
      replace hx2 := (HB.out.cell (World.block_lt_of_cell? w _ hx2)).trans hx2
      replace hx3 := (HB.out.cell (World.block_lt_of_cell? w _ hx3)).trans hx3
      replace hx4 := (HB.out.cell (World.block_lt_of_cell? w _ hx4)).trans hx4
      replace hx5 := (HB.out.cell (World.block_lt_of_cell? w _ hx5)).trans hx5
      replace hx6 := (HB.out.cell (World.block_lt_of_cell? w _ hx6)).trans hx6
      rw [Int.toNat_natCast] at hx0 hx1 hx2 hx3 hx4 hx5 hx6
      obtain ⟨q, hq⟩ : ∃ q, badB l[k] = q := ⟨_, rfl⟩
      have HQ := Aside0.mk (show badB (rd_T38 l (k : Int)) = q by rw [rdT_at hlt]; exact hq)
      cases q with
      | true =>
        have HT := Aside0.mk (any_at (f := badB) hlt hq)
        clear hq
        go_wp2_with (first | (go_at_call 65; with_reducible refine (bad_bank _ _ HQ.out _).mono ?_; rintro e w1 ⟨rfl, hb⟩; have HB1 := Aside0.mk (below_step HB.out hb); clear hb))
        go_ret
        exact ⟨⟨k, rfl, by rw [HT.out]; exact decide_eq_true (Int.natCast_nonneg _)⟩, HB1.out⟩
      | false =>
        have HF := Aside0.mk (show (l.take (k + 1)).any badB = false by rw [any_succ hlt, HA.out, hq]; rfl)
        clear hq
        go_wp2_with (first | (go_at_call 65; with_reducible refine (bad_bank _ _ HQ.out _).mono ?_; rintro e w1 ⟨rfl, hb⟩; have HB1 := Aside0.mk (below_step HB.out hb); clear hb))
        go_roundw
        case rel => exact ⟨k + 1, by omega, by go_num, HF, HB1⟩
        case measure => simp [intOf]; omega
    · have hkd : ¬ (k : Int) < (l.length : Int) := by omega
      have HF := Aside0.mk (show l.any badB = false by have := HA.out; rwa [List.take_of_length_le (by omega)] at this)
      go_wp2_with fail
      go_ret
      exact ⟨⟨-1, rfl, by rw [HF.out]; rfl⟩, HB.out⟩
set_option maxRecDepth 100000 in
set_option maxHeartbeats 4000000 in
theorem index_int (A : Option Addr) (c : Nat) (l : List Int) (w : World) (hr : Kd.C (Kd.int .i64) w A l.length l) (hl : l.length ≤ 1000) :
    Calls Try.prog 80 #[.slice A l.length c, .func (.func 70) #[] #[]] w fun e w' => (∃ r : Int, e = .returned (.int .i64 r) ∧ decide (0 ≤ r) = l.any badI) ∧ Below w.heap.size w w' := by
  have HR := Aside0.mk hr
  have HB := Aside0.mk (Below.refl w.heap.size w)
  clear hr
  go_enter Try.func80, Try.ntmps80
  go_wp2
  go_loopw [8] (fun i wr => ∃ k : Nat, k ≤ l.length ∧ i = .int .i64 k ∧ Aside0 ((l.take k).any badI = false) ∧ Aside0 (Below w.heap.size w wr)) (fun i _ => l.length - (intOf i).toNat)
  case atStart => exact ⟨0, Nat.zero_le _, rfl, ⟨rfl⟩, HB⟩
  case round =>
    clear HB
    obtain ⟨k, hk, rfl, HA, HB⟩ := hrel
    by_cases hlt : k < l.length
    · have p1 : 0 ≤ (k : Int) := Int.natCast_nonneg _
      have q1 : (k : Int) < (l.length : Int) := by omega
      have q2 : (k : Int) < 1000 := by omega
      obtain ⟨ad, e1, hx0⟩ := Kd.at_int HR.out (k : Int) p1 q1
      cases e1
      replace hx0 := (HB.out.cell (World.block_lt_of_cell? w _ hx0)).trans hx0
      rw [Int.toNat_natCast] at hx0
      obtain ⟨q, hq⟩ : ∃ q, badI l[k] = q := ⟨_, rfl⟩
      have HQ := Aside0.mk (show badI (rd l (k : Int)) = q by rw [rdI_at hlt]; exact hq)
      cases q with
      | true =>
        have HT := Aside0.mk (any_at (f := badI) hlt hq)
        clear hq
        go_wp2_with (first | (go_at_call 70; with_reducible refine (bad_int _ _ HQ.out _).mono ?_; rintro e w1 ⟨rfl, hb⟩; have HB1 := Aside0.mk (below_step HB.out hb); clear hb))
        go_ret
        exact ⟨⟨k, rfl, by rw [HT.out]; exact decide_eq_true (Int.natCast_nonneg _)⟩, HB1.out⟩
      | false =>
        have HF := Aside0.mk (show (l.take (k + 1)).any badI = false by rw [any_succ hlt, HA.out, hq]; rfl)
        clear hq
        go_wp2_with (first | (go_at_call 70; with_reducible refine (bad_int _ _ HQ.out _).mono ?_; rintro e w1 ⟨rfl, hb⟩; have HB1 := Aside0.mk (below_step HB.out hb); clear hb))
        go_roundw
        case rel => exact ⟨k + 1, by omega, by go_num, HF, HB1⟩
        case measure => simp [intOf]; omega
    · have hkd : ¬ (k : Int) < (l.length : Int) := by omega
      have HF := Aside0.mk (show l.any badI = false by have := HA.out; rwa [List.take_of_length_le (by omega)] at this)
      go_wp2_with fail
      go_ret
      exact ⟨⟨-1, rfl, by rw [HF.out]; rfl⟩, HB.out⟩
theorem has_bank (A : Option Addr) (c : Nat) (l : List S38) (w : World) (hr : Kd.C k38 w A l.length l) (hl : l.length ≤ 1000) :
    Calls Try.prog 64 #[.slice A l.length c, .func (.func 65) #[] #[]] w fun e w' => e = .returned (.bool (l.any badB)) ∧ Below w.heap.size w w' := by
  have HR := Aside0.mk hr
  clear hr
  go_enter Try.func64, Try.ntmps64
  go_wp2_with (first | (go_at_call 79; with_reducible refine (index_bank A c l _ HR.out hl).mono ?_; rintro e w1 ⟨⟨r, rfl, hd⟩, hb⟩; have HD := Aside0.mk hd; have HB := Aside0.mk hb; clear hd hb))
  go_ret
  exact ⟨by rw [← HD.out]; rfl, HB.out⟩
theorem has_int (A : Option Addr) (c : Nat) (l : List Int) (w : World) (hr : Kd.C (Kd.int .i64) w A l.length l) (hl : l.length ≤ 1000) :
    Calls Try.prog 69 #[.slice A l.length c, .func (.func 70) #[] #[]] w fun e w' => e = .returned (.bool (l.any badI)) ∧ Below w.heap.size w w' := by
  have HR := Aside0.mk hr
  clear hr
  go_enter Try.func69, Try.ntmps69
  go_wp2_with (first | (go_at_call 80; with_reducible refine (index_int A c l _ HR.out hl).mono ?_; rintro e w1 ⟨⟨r, rfl, hd⟩, hb⟩; have HD := Aside0.mk hd; have HB := Aside0.mk hb; clear hd hb))
  go_ret
  exact ⟨by rw [← HD.out]; rfl, HB.out⟩
end Go.Proofs.Ytomaojmccchibaa.X
/- Whether one of the banks is bad; whether one of the waits is; whether the order has each car once. -/
namespace Go.Proofs.Ytomaojmccchibaa.X
open Go.RowKit Go.Proofs.YtomaojmccchibaaW.PrintWords Go.Proofs.YtomaojmccchibaaW.PrintLast Go.Proofs.YtomaojmccchibaaW.PrintMore
set_option linter.unusedVariables false
set_option linter.unusedSimpArgs false

theorem alloc_sz (w : World) (o : Obj) : (w.alloc o).heap.size = w.heap.size + 1 := by unfold World.alloc; simp
/-- A row of whole numbers that was just made. -/
theorem lit_C {w : World} {b : Nat} {t : TypeId} {zs : List Int} (h : w.heap[b]? = some (.cells (zs.map (Value.int .i64)).toArray t (0, 0))) (hl : zs.length ≤ 1000) : Kd.C (Kd.int .i64) w (some ⟨b, 0, none⟩) zs.length zs := by
  refine Kd.C_of_reads (enc := Value.int .i64) (d := (0 : Int)) (h1 := fun _ => rfl) ⟨rfl, by omega, fun _ => ⟨_, rfl, fun j hj => ?_⟩⟩
  have e : (⟨b, 0, none⟩ : Addr).add j = ⟨b, j, none⟩ := by
    unfold Addr.add; split
    · rename_i h; subst h; rfl
    · simp
  rw [e, blk_cell h j, List.getElem?_toArray, List.getElem?_map, List.getD_eq_getElem?_getD, List.getElem?_eq_getElem hj]; rfl
section
variable (B : Option Addr) (cn m cm : Nat) (x1 x2 x4 x5 x6 x7 x8 x9 x10 x11 x12 : Int) (w : World)
set_option maxRecDepth 100000 in
set_option maxHeartbeats 400000 in
theorem rule2 (A : Option Addr) (l : List S38) (hr : Kd.C k38 w A l.length l) (hl : l.length ≤ 1000) : Calls Try.prog 63 #[confV A B l.length cn m cm x1 x2 x4 x5 x6 x7 x8 x9 x10 x11 x12] w fun e w' => e = .returned (.bool (!l.any badB)) ∧ Below w.heap.size w w' := by
  unfold confV
  have HR := Aside0.mk hr
  clear hr
  go_enter Try.func63, Try.ntmps63
  go_wp2_with fail
  refine (has_bank A _ l _ (Kd.C_below HR.out (below_alloc (Below.refl _ _) _)) hl).mono ?_
  rintro e w1 ⟨rfl, hb⟩
  have HB := Aside0.mk hb
  clear hb
  go_wp2_with fail
  go_ret
  exact ⟨rfl, below_step (below_alloc (Below.refl _ _) _) HB.out⟩
set_option maxRecDepth 100000 in
set_option maxHeartbeats 400000 in
theorem rule5 (A : Option Addr) (n : Nat) : Calls Try.prog 68 #[confV A B n cn m cm x1 x2 x4 x5 x6 x7 x8 x9 x10 x11 x12] w fun e w' => e = .returned (.bool (!([x6, x7, x8, x10] : List Int).any badI)) ∧ Below w.heap.size w w' := by
  unfold confV
  obtain ⟨q, hq⟩ : ∃ q, ([x6, x7, x8, x10] : List Int).any badI = q := ⟨_, rfl⟩
  rw [hq]
  have HQ := Aside0.mk hq
  clear hq
  go_enter Try.func68, Try.ntmps68
  go_wp2_with fail
  obtain ⟨W1, hW⟩ : ∃ W1, w.alloc (.cells #[.slice A n cn, .int .i64 x1, .int .i64 x2, .slice B m cm, .int .i64 x4, .int .i64 x5, .int .i64 x6, .int .i64 x7, .int .i64 x8, .int .i64 x9, .int .i64 x10, .int .i64 x11, .int .i64 x12] 25) = W1 := ⟨_, rfl⟩
  have hs : W1.heap.size = w.heap.size + 1 := by rw [← hW, alloc_sz]
  have HW := Aside0.mk (show Below w.heap.size w W1 by rw [← hW]; exact below_alloc (Below.refl _ _) _)
  rw [hW, ← hs]
  clear hW hs
  refine (has_int _ 4 [x6, x7, x8, x10] _ (lit_C (blk_new W1 _) (by simp)) (by simp)).mono ?_
  rintro e w1 ⟨rfl, hb⟩
  rw [HQ.out]
  have HB := Aside0.mk hb
  clear hb
  go_wp2_with fail
  go_ret
  exact ⟨rfl, below_step (below_alloc HW.out _) HB.out⟩
end
end Go.Proofs.Ytomaojmccchibaa.X
