/- Whether one of a row is bad: slices.ContainsFunc over banks, and over whole numbers. -/
import Derived.Test.YtomaojmccchibaaConfRules
namespace Go.Proofs.Ytomaojmccchibaa.X
open Go.RowKit Go.Proofs.YtomaojmccchibaaW.PrintWords Go.Proofs.YtomaojmccchibaaW.PrintLast Go.Proofs.YtomaojmccchibaaW.PrintMore
set_option linter.unusedVariables false
set_option linter.unusedSimpArgs false

/-- A bank that may not be. -/
def badB (b : S38) : Bool := !inV b.f0 1 8 || !decide (Ok b.f1)
/-- A number of ticks that may not be. -/
def badI (x : Int) : Bool := !inV x 1 200
theorem any_succ {α : Type} {l : List α} {f : α → Bool} {k : Nat} (hk : k < l.length) : (l.take (k + 1)).any f = ((l.take k).any f || f l[k]) := by
  rw [List.take_succ_eq_append_getElem hk, List.any_append]; simp
theorem any_at {α : Type} {l : List α} {f : α → Bool} {k : Nat} (hk : k < l.length) (h : f l[k] = true) : l.any f = true :=
  List.any_eq_true.2 ⟨l[k], List.getElem_mem _, h⟩
theorem rdT_at {l : List S38} {k : Nat} (hk : k < l.length) : rd_T38 l (k : Int) = l[k] := by
  unfold rd_T38; rw [Int.toNat_natCast, List.getD_eq_getElem?_getD, List.getElem?_eq_getElem hk]; rfl
theorem rdI_at {l : List Int} {k : Nat} (hk : k < l.length) : rd l (k : Int) = l[k] := by
  unfold rd; rw [Int.toNat_natCast, List.getD_eq_getElem?_getD, List.getElem?_eq_getElem hk]; rfl
set_option maxRecDepth 100000 in
theorem bad_bank (b : S38) (r : Bool) (h : badB b = r) (w : World) : Calls Try.prog 65 #[.agg #[.int .i64 b.f0, .int .i64 b.f1.f0, .int .i64 b.f1.f1, .int .i64 b.f1.f2, .int .i64 b.f1.f3, .int .i64 b.f1.f4, .int .i64 b.f1.f5]] w fun e w' => e = .returned (.bool r) ∧ Below w.heap.size w w' := by
  subst h
  unfold badB
  obtain ⟨b0, h0⟩ : ∃ q, inV b.f0 1 8 = q := ⟨_, rfl⟩
  rw [h0]
  have H0 := Aside0.mk h0
  clear h0
  cases b0 with
  | false =>
    go_enter Try.func65, Try.ntmps65
    go_wp2_with (first | (go_at_call 62; with_reducible refine (in_b (x := b.f0) (a := 1) (b := 8) H0.out _).mono ?_; rintro e w1 ⟨rfl, nd, rfl⟩))
    go_ret
    exact ⟨rfl, by repeat (with_reducible first | exact Below.refl _ _ | apply below_alloc | apply pw_below_drewN | apply below_drew1)⟩
  | true =>
    go_enter Try.func65, Try.ntmps65
    go_wp2_with (first | (go_at_call 62; with_reducible refine (in_b (x := b.f0) (a := 1) (b := 8) H0.out _).mono ?_; rintro e w1 ⟨rfl, nd, rfl⟩) | (go_at_call 28; with_reducible refine (rates_any b.f1 _).mono ?_; rintro e w1 ⟨rfl, hb⟩; have HB := Aside0.mk hb; clear hb))
    go_ret
    exact ⟨rfl, below_step (by repeat (with_reducible first | exact Below.refl _ _ | apply below_alloc | apply pw_below_drewN | apply below_drew1)) HB.out⟩
theorem bad_int (x : Int) (r : Bool) (h : badI x = r) (w : World) : Calls Try.prog 70 #[.int .i64 x] w fun e w' => e = .returned (.bool r) ∧ Below w.heap.size w w' := by
  subst h
  unfold badI
  go_enter Try.func70, Try.ntmps70
  go_wp2_with (first | (go_at_call 62; with_reducible refine (in_any x 1 200 _).mono ?_; rintro e w1 ⟨rfl, nd, rfl⟩))
  go_ret
  exact ⟨rfl, by repeat (with_reducible first | exact Below.refl _ _ | apply below_alloc | apply pw_below_drewN | apply below_drew1)⟩
set_option maxRecDepth 100000 in
set_option maxHeartbeats 4000000 in
theorem index_bank (A : Option Addr) (c : Nat) (l : List S38) (w : World) (hr : Kd.C k38 w A l.length l) (hl : l.length ≤ 1000) :
    Calls Try.prog 79 #[.slice A l.length c, .func (.func 65) #[] #[]] w fun e w' => (∃ r : Int, e = .returned (.int .i64 r) ∧ decide (0 ≤ r) = l.any badB) ∧ Below w.heap.size w w' := by
  have HR := Aside0.mk hr
  have HB := Aside0.mk (Below.refl w.heap.size w)
  clear hr
  go_enter Try.func79, Try.ntmps79
  go_wp2
  go_loopw [8] (fun i wr => ∃ k : Nat, k ≤ l.length ∧ i = .int .i64 k ∧ Aside0 ((l.take k).any badB = false) ∧ Aside0 (Below w.heap.size w wr)) (fun i _ => l.length - (intOf i).toNat)
  case atStart => exact ⟨0, Nat.zero_le _, rfl, ⟨rfl⟩, HB⟩
  case round =>
    clear HB
    obtain ⟨k, hk, rfl, HA, HB⟩ := hrel
    by_cases hlt : k < l.length
    · have p1 : 0 ≤ (k : Int) := Int.natCast_nonneg _
      have q1 : (k : Int) < (l.length : Int) := by omega
      have q2 : (k : Int) < 1000 := by omega
      obtain ⟨ad, e1, hx0, hx1, hx2, hx3, hx4, hx5, hx6⟩ := at_T38 HR.out (k : Int) p1 q1
      cases e1
      replace hx0 := (HB.out.cell (World.block_lt_of_cell? w _ hx0)).trans hx0
      replace hx1 := (HB.out.cell (World.block_lt_of_cell? w _ hx1)).trans hx1
      replace hx2 := (HB.out.cell (World.block_lt_of_cell? w _ hx2)).trans hx2
      replace hx3 := (HB.out.cell (World.block_lt_of_cell? w _ hx3)).trans hx3
      replace hx4 := (HB.out.cell (World.block_lt_of_cell? w _ hx4)).trans hx4
      replace hx5 := (HB.out.cell (World.block_lt_of_cell? w _ hx5)).trans hx5
      replace hx6 := (HB.out.cell (World.block_lt_of_cell? w _ hx6)).trans hx6
      rw [Int.toNat_natCast] at hx0 hx1 hx2 hx3 hx4 hx5 hx6
      obtain ⟨q, hq⟩ : ∃ q, badB l[k] = q := ⟨_, rfl⟩
      have HQ := Aside0.mk (show badB (rd_T38 l (k : Int)) = q by rw [rdT_at hlt]; exact hq)
      cases q with
      | true =>
        have HT := Aside0.mk (any_at (f := badB) hlt hq)
        clear hq
        go_wp2_with (first | (go_at_call 65; with_reducible refine (bad_bank _ _ HQ.out _).mono ?_; rintro e w1 ⟨rfl, hb⟩; have HB1 := Aside0.mk (below_step HB.out hb); clear hb))
        go_ret
        exact ⟨⟨k, rfl, by rw [HT.out]; exact decide_eq_true (Int.natCast_nonneg _)⟩, HB1.out⟩
      | false =>
        have HF := Aside0.mk (show (l.take (k + 1)).any badB = false by rw [any_succ hlt, HA.out, hq]; rfl)
        clear hq
        go_wp2_with (first | (go_at_call 65; with_reducible refine (bad_bank _ _ HQ.out _).mono ?_; rintro e w1 ⟨rfl, hb⟩; have HB1 := Aside0.mk (below_step HB.out hb); clear hb))
        go_roundw
        case rel => exact ⟨k + 1, by omega, by go_num, HF, HB1⟩
        case measure => simp [intOf]; omega
    · have hkd : ¬ (k : Int) < (l.length : Int) := by omega
      have HF := Aside0.mk (show l.any badB = false by have := HA.out; rwa [List.take_of_length_le (by omega)] at this)
      go_wp2_with fail
      go_ret
      exact ⟨⟨-1, rfl, by rw [HF.out]; rfl⟩, HB.out⟩
set_option maxRecDepth 100000 in
set_option maxHeartbeats 4000000 in
theorem index_int (A : Option Addr) (c : Nat) (l : List Int) (w : World) (hr : Kd.C (Kd.int .i64) w A l.length l) (hl : l.length ≤ 1000) :
    Calls Try.prog 80 #[.slice A l.length c, .func (.func 70) #[] #[]] w fun e w' => (∃ r : Int, e = .returned (.int .i64 r) ∧ decide (0 ≤ r) = l.any badI) ∧ Below w.heap.size w w' := by
  have HR := Aside0.mk hr
  have HB := Aside0.mk (Below.refl w.heap.size w)
  clear hr
  go_enter Try.func80, Try.ntmps80
  go_wp2
  go_loopw [8] (fun i wr => ∃ k : Nat, k ≤ l.length ∧ i = .int .i64 k ∧ Aside0 ((l.take k).any badI = false) ∧ Aside0 (Below w.heap.size w wr)) (fun i _ => l.length - (intOf i).toNat)
  case atStart => exact ⟨0, Nat.zero_le _, rfl, ⟨rfl⟩, HB⟩
  case round =>
    clear HB
    obtain ⟨k, hk, rfl, HA, HB⟩ := hrel
    by_cases hlt : k < l.length
    · have p1 : 0 ≤ (k : Int) := Int.natCast_nonneg _
      have q1 : (k : Int) < (l.length : Int) := by omega
      have q2 : (k : Int) < 1000 := by omega
      obtain ⟨ad, e1, hx0⟩ := Kd.at_int HR.out (k : Int) p1 q1
      cases e1
      replace hx0 := (HB.out.cell (World.block_lt_of_cell? w _ hx0)).trans hx0
      rw [Int.toNat_natCast] at hx0
      obtain ⟨q, hq⟩ : ∃ q, badI l[k] = q := ⟨_, rfl⟩
      have HQ := Aside0.mk (show badI (rd l (k : Int)) = q by rw [rdI_at hlt]; exact hq)
      cases q with
      | true =>
        have HT := Aside0.mk (any_at (f := badI) hlt hq)
        clear hq
        go_wp2_with (first | (go_at_call 70; with_reducible refine (bad_int _ _ HQ.out _).mono ?_; rintro e w1 ⟨rfl, hb⟩; have HB1 := Aside0.mk (below_step HB.out hb); clear hb))
        go_ret
        exact ⟨⟨k, rfl, by rw [HT.out]; exact decide_eq_true (Int.natCast_nonneg _)⟩, HB1.out⟩
      | false =>
        have HF := Aside0.mk (show (l.take (k + 1)).any badI = false by rw [any_succ hlt, HA.out, hq]; rfl)
        clear hq
        go_wp2_with (first | (go_at_call 70; with_reducible refine (bad_int _ _ HQ.out _).mono ?_; rintro e w1 ⟨rfl, hb⟩; have HB1 := Aside0.mk (below_step HB.out hb); clear hb))
        go_roundw
        case rel => exact ⟨k + 1, by omega, by go_num, HF, HB1⟩
        case measure => simp [intOf]; omega
    · have hkd : ¬ (k : Int) < (l.length : Int) := by omega
      have HF := Aside0.mk (show l.any badI = false by have := HA.out; rwa [List.take_of_length_le (by omega)] at this)
      go_wp2_with fail
      go_ret
      exact ⟨⟨-1, rfl, by rw [HF.out]; rfl⟩, HB.out⟩
theorem has_bank (A : Option Addr) (c : Nat) (l : List S38) (w : World) (hr : Kd.C k38 w A l.length l) (hl : l.length ≤ 1000) :
    Calls Try.prog 64 #[.slice A l.length c, .func (.func 65) #[] #[]] w fun e w' => e = .returned (.bool (l.any badB)) ∧ Below w.heap.size w w' := by
  have HR := Aside0.mk hr
  clear hr
  go_enter Try.func64, Try.ntmps64
  go_wp2_with (first | (go_at_call 79; with_reducible refine (index_bank A c l _ HR.out hl).mono ?_; rintro e w1 ⟨⟨r, rfl, hd⟩, hb⟩; have HD := Aside0.mk hd; have HB := Aside0.mk hb; clear hd hb))
  go_ret
  exact ⟨by rw [← HD.out]; rfl, HB.out⟩
theorem has_int (A : Option Addr) (c : Nat) (l : List Int) (w : World) (hr : Kd.C (Kd.int .i64) w A l.length l) (hl : l.length ≤ 1000) :
    Calls Try.prog 69 #[.slice A l.length c, .func (.func 70) #[] #[]] w fun e w' => e = .returned (.bool (l.any badI)) ∧ Below w.heap.size w w' := by
  have HR := Aside0.mk hr
  clear hr
  go_enter Try.func69, Try.ntmps69
  go_wp2_with (first | (go_at_call 80; with_reducible refine (index_int A c l _ HR.out hl).mono ?_; rintro e w1 ⟨⟨r, rfl, hd⟩, hb⟩; have HD := Aside0.mk hd; have HB := Aside0.mk hb; clear hd hb))
  go_ret
  exact ⟨by rw [← HD.out]; rfl, HB.out⟩
end Go.Proofs.Ytomaojmccchibaa.X
