/- rates.Table's methods: New, Peak, Most, Laid: sync.Once lays the table at the first asking. -/
import Derived.Test.YtomaojmccchibaaRatesLay
import Derived.Test.YtomaojmccchibaaXx4
import Derived.Laws.NewBlocks
namespace Go.Proofs.Ytomaojmccchibaa.X
open Go.RowKit Go.Proofs.YtomaojmccchibaaW.PrintWords Go.Proofs.YtomaojmccchibaaW.PrintLast Go.Proofs.YtomaojmccchibaaW.PrintMore
attribute [local go_sem] max2_int min2_int max_two min_two max_three min_three max_four min_four
set_option linter.unusedVariables false
set_option linter.unusedSimpArgs false

theorem ret_int {k : IntKind} {a b : Int} (h : a = b) : Ending.returned (.int k a) = .returned (.int k b) := by rw [h]
/-- Is not laid yet. -/
def Raw (g : Nat) (r : S36) (w : World) : Prop := TB g r 0 0 0 (fun _ => 0) (fun _ => 0) 0 w
/-- Is laid. -/
def Done (g : Nat) (r : S36) (p q : Nat → Int) (w : World) : Prop := TB g r 1 0 1 (upK p 65) (upK q 65) (mK p q 65) w
set_option maxRecDepth 100000 in
set_option maxHeartbeats 4000000 in
theorem slow_any (g : Nat) (r : S36) (p q : Nat → Int) (w : World) (T0 : Raw g r w) (HP0 : PeaksOf r p q) :
    Calls Try.prog 75 #[.pointer (some ⟨g, 6, none⟩), .func (.func 58) #[.pointer (some ⟨g, 0, none⟩)] #[]] w fun e w' => e = .returned (.tuple #[]) ∧ Done g r p q w' ∧ But g w w' := by
  have HP := Aside0.mk HP0
  have c7 := (TB.cell T0 7).trans (rfl : _ = some (Value.int .i32 0))
  have z7 := TB.frozen T0 7
  have T1 := Aside0.mk (TB.put T0 (i := 7) (x := .int .i32 1) (set_lock 1))
  have K1 := Aside0.mk ((But.refl g w).set 7 (.int .i32 1))
  have c6 := (TB.cell T1.out 6).trans (rfl : _ = some (Value.int .u32 0))
  have hl := run_call_load (P := Try.prog) Try.func82 (by kernel_rfl) (by kernel_rfl) (by kernel_rfl) .u32 (by kernel_rfl) c6
  have hnot : ∀ (x : Bool) (w : World), (Op.unary .not (.bool x)).run Try.prog w = .ok (.bool (!x)) w := fun _ _ => rfl
  clear T0 HP0 c6
  go_enter_defers Try.func75, Try.ntmps75
  go_wp2_with (first | (go_at_call 83; refine (lock_free ⟨g, 7, none⟩ _ c7 z7).mono ?_; rintro e w' ⟨rfl, rfl⟩) | (go_at_call 58; refine (lay_any g r 1 p q _ T1.out HP.out).mono ?_; rintro e w2 ⟨rfl, hT, hK⟩) | (go_at_call 74; go_in))
  have T2 := Aside0.mk hT
  have K2 := Aside0.mk (K1.out.trans hK)
  have d6 := (TB.cell hT 6).trans (rfl : _ = some (Value.int .u32 0))
  have y6 := TB.frozen hT 6
  have T3 := Aside0.mk (TB.put (w := w2.drew) hT (i := 6) (x := .int .u32 1) (set_done 1))
  have K3 := Aside0.mk (But.set K2.out.drew 6 (.int .u32 1))
  have d7 := (TB.cell T3.out 7).trans (rfl : _ = some (Value.int .i32 1))
  have y7 := TB.frozen T3.out 7
  have T4 := Aside0.mk (TB.put T3.out (i := 7) (x := .int .i32 0) (set_lock 0))
  have K4 := Aside0.mk (But.set K3.out 7 (.int .i32 0))
  clear hT hK
  refine leaves_cons (f := 85) (args := #[.pointer (some ⟨g, 6, none⟩), .bool true]) (by simp) (by simp [go_sem]) ?_
  refine (store_deferred ⟨g, 6, none⟩ (.int .u32 0) .returning _ d6 y6).mono ?_
  rintro e u' w'' ⟨rfl, rfl, rfl⟩
  refine leaves_cons (f := 84) (args := #[.pointer (some ⟨g, 7, none⟩)]) (by simp [settle]) (by simp [go_sem]) ?_
  refine (unlock_deferred ⟨g, 7, none⟩ _ _ d7 y7).mono ?_
  rintro e u' w'' ⟨rfl, rfl, rfl⟩
  have fin : Done g r p q ((w2.drew.setCell ⟨g, 6, none⟩ (.int .u32 1)).setCell ⟨g, 7, none⟩ (.int .i32 0)) ∧ But g w ((w2.drew.setCell ⟨g, 6, none⟩ (.int .u32 1)).setCell ⟨g, 7, none⟩ (.int .i32 0)) := ⟨T4.out, K4.out⟩
  simp [Leaves, settle, results, Try.results75, fin]
theorem do_first (g : Nat) (r : S36) (p q : Nat → Int) (w : World) (T0 : Raw g r w) (HP0 : PeaksOf r p q) :
    Calls Try.prog 57 #[.pointer (some ⟨g, 6, none⟩), .func (.func 58) #[.pointer (some ⟨g, 0, none⟩)] #[]] w fun e w' => e = .returned (.tuple #[]) ∧ Done g r p q w' ∧ But g w w' := by
  have HP := Aside0.mk HP0
  have T := Aside0.mk T0
  have c6 := (TB.cell T0 6).trans (rfl : _ = some (Value.int .u32 0))
  have hl := run_call_load (P := Try.prog) Try.func82 (by kernel_rfl) (by kernel_rfl) (by kernel_rfl) .u32 (by kernel_rfl) c6
  have hnot : ∀ (x : Bool) (w : World), (Op.unary .not (.bool x)).run Try.prog w = .ok (.bool (!x)) w := fun _ _ => rfl
  clear T0 HP0 c6
  go_enter Try.func57, Try.ntmps57
  go_wp2_with (first | (go_at_call 75; refine (slow_any g r p q _ T.out HP.out).mono ?_; rintro e w2 ⟨rfl, hT, hK⟩; have F := Aside0.mk (And.intro hT hK); clear hT hK) | (go_at_call 74; go_in))
  go_end0
  exact ⟨rfl, F.out⟩
theorem do_done (g : Nat) (r : S36) (p q : Nat → Int) (fv : Value) (w : World) (T0 : Done g r p q w) :
    Calls Try.prog 57 #[.pointer (some ⟨g, 6, none⟩), fv] w fun e w' => e = .returned (.tuple #[]) ∧ w' = w := by
  have c6 := (TB.cell T0 6).trans (rfl : _ = some (Value.int .u32 1))
  have hl := run_call_load (P := Try.prog) Try.func82 (by kernel_rfl) (by kernel_rfl) (by kernel_rfl) .u32 (by kernel_rfl) c6
  have hnot : ∀ (x : Bool) (w : World), (Op.unary .not (.bool x)).run Try.prog w = .ok (.bool (!x)) w := fun _ _ => rfl
  clear T0 c6
  go_enter Try.func57, Try.ntmps57
  go_wp2
  go_end0
  exact ⟨rfl, rfl⟩
/-- A table, laid or not. -/
def Tbl (g : Nat) (r : S36) (p q : Nat → Int) (w : World) : Prop := Raw g r w ∨ Done g r p q w
theorem do_any (g : Nat) (r : S36) (p q : Nat → Int) (w : World) (T0 : Tbl g r p q w) (HP0 : PeaksOf r p q) :
    Calls Try.prog 57 #[.pointer (some ⟨g, 6, none⟩), .func (.func 58) #[.pointer (some ⟨g, 0, none⟩)] #[]] w fun e w' => e = .returned (.tuple #[]) ∧ Done g r p q w' ∧ But g w w' := by
  rcases T0 with h | h
  · exact do_first g r p q w h HP0
  · refine (do_done g r p q _ w h).mono ?_
    rintro e w' ⟨rfl, rfl⟩
    exact ⟨rfl, h, But.refl _ _⟩
/-- A load, as it counts. -/
def clampN (load : Int) : Nat := (mn (mx load 0) 64).toNat
/-- What a table tells. -/
def peakV (r : S36) (p q : Nat → Int) (load dir : Int) : Int := if dir > 0 then p (clampN load) else if dir < 0 then q (clampN load) else r.f4
theorem clamp_spec (load : Int) : ∃ k : Nat, k < 65 ∧ (if 64 < (if load < 0 then 0 else load) then 64 else (if load < 0 then 0 else load)) = (k : Int) ∧ clampN load = k := by
  unfold clampN mn mx
  refine ⟨_, ?_, ?_, rfl⟩ <;> (repeat' split) <;> omega
set_option maxRecDepth 100000 in
set_option maxHeartbeats 4000000 in
theorem peak_any (g : Nat) (r : S36) (p q : Nat → Int) (load dir : Int) (w : World) (T0 : Tbl g r p q w) (HP0 : PeaksOf r p q) :
    Calls Try.prog 35 #[.pointer (some ⟨g, 0, none⟩), .int .i64 load, .int .i64 dir] w fun e w' => e = .returned (.int .i64 (peakV r p q load dir)) ∧ Done g r p q w' ∧ But g w w' := by
  have HP := Aside0.mk HP0
  have T := Aside0.mk T0
  obtain ⟨k, hk, hc, hcl⟩ := clamp_spec load
  have HC := Aside0.mk hc
  have HCL := Aside0.mk hcl
  have hmf : ∀ (fn : Fn) (first cap : Array Value) (w : World), (Instr.makeFunc fn first cap).run Try.prog w = .ok (.func fn first cap) w := fun _ _ _ _ => rfl
  clear HP0 T0 hc hcl
  rcases (show dir > 0 ∨ dir < 0 ∨ dir = 0 by omega) with hd | hd | hd
  · have HV := Aside0.mk (show upK p 65 k = peakV r p q load dir by unfold peakV upK; rw [if_pos hd, HCL.out, if_pos hk])
    go_enter Try.func35, Try.ntmps35
    go_wp2_with (first | (go_at_call 57; refine (do_any g r p q _ T.out HP.out).mono ?_; rintro e w2 ⟨rfl, hT, hK⟩; have F := Aside0.mk (And.intro hT hK); have cu := (TB.cell hT (10 + k)).trans (tc_up hk); have cd := (TB.cell hT (75 + k)).trans (tc_down hk); have cr := (TB.cell hT 4).trans (rfl : _ = some (Value.int .i64 r.f4)); clear hT hK) | (simp only [HC.out]))
    all_goals (go_ret; exact ⟨ret_int HV.out, F.out⟩)
  · have HV := Aside0.mk (show upK q 65 k = peakV r p q load dir by unfold peakV; rw [if_neg (show ¬ dir > 0 by omega), if_pos hd, HCL.out]; unfold upK; rw [if_pos hk])
    have hd2 : ¬ dir > 0 := by omega
    go_enter Try.func35, Try.ntmps35
    go_wp2_with (first | (go_at_call 57; refine (do_any g r p q _ T.out HP.out).mono ?_; rintro e w2 ⟨rfl, hT, hK⟩; have F := Aside0.mk (And.intro hT hK); have cu := (TB.cell hT (10 + k)).trans (tc_up hk); have cd := (TB.cell hT (75 + k)).trans (tc_down hk); have cr := (TB.cell hT 4).trans (rfl : _ = some (Value.int .i64 r.f4)); clear hT hK) | (simp only [HC.out]))
    all_goals (go_ret; exact ⟨ret_int HV.out, F.out⟩)
  · have HV := Aside0.mk (show r.f4 = peakV r p q load dir by unfold peakV; rw [if_neg (by omega), if_neg (by omega)])
    subst hd
    go_enter Try.func35, Try.ntmps35
    go_wp2_with (first | (go_at_call 57; refine (do_any g r p q _ T.out HP.out).mono ?_; rintro e w2 ⟨rfl, hT, hK⟩; have F := Aside0.mk (And.intro hT hK); have cu := (TB.cell hT (10 + k)).trans (tc_up hk); have cd := (TB.cell hT (75 + k)).trans (tc_down hk); have cr := (TB.cell hT 4).trans (rfl : _ = some (Value.int .i64 r.f4)); clear hT hK) | (simp only [HC.out]))
    all_goals (go_ret; exact ⟨ret_int HV.out, F.out⟩)
theorem peak_nil (load dir : Int) (w : World) : Calls Try.prog 35 #[.pointer none, .int .i64 load, .int .i64 dir] w fun e w' => e = .returned (.int .i64 0) ∧ w' = w := by
  go_enter Try.func35, Try.ntmps35
  go_wp2_with fail
  go_ret
  exact ⟨rfl, rfl⟩
set_option maxRecDepth 100000 in
set_option maxHeartbeats 4000000 in
theorem most_any (g : Nat) (r : S36) (p q : Nat → Int) (w : World) (T0 : Tbl g r p q w) (HP0 : PeaksOf r p q) :
    Calls Try.prog 36 #[.pointer (some ⟨g, 0, none⟩)] w fun e w' => e = .returned (.int .i64 (mK p q 65)) ∧ Done g r p q w' ∧ But g w w' := by
  have HP := Aside0.mk HP0
  have T := Aside0.mk T0
  have hmf : ∀ (fn : Fn) (first cap : Array Value) (w : World), (Instr.makeFunc fn first cap).run Try.prog w = .ok (.func fn first cap) w := fun _ _ _ _ => rfl
  clear HP0 T0
  go_enter Try.func36, Try.ntmps36
  go_wp2_with (first | (go_at_call 57; refine (do_any g r p q _ T.out HP.out).mono ?_; rintro e w2 ⟨rfl, hT, hK⟩; have F := Aside0.mk (And.intro hT hK); have cu := (TB.cell hT 140).trans tc_most; clear hT hK))
  go_ret
  exact ⟨rfl, F.out⟩
theorem most_nil (w : World) : Calls Try.prog 36 #[.pointer none] w fun e w' => e = .returned (.int .i64 0) ∧ w' = w := by
  go_enter Try.func36, Try.ntmps36
  go_wp2_with fail
  go_ret
  exact ⟨rfl, rfl⟩
theorem laid_raw (g : Nat) (r : S36) (w : World) (T0 : Raw g r w) : Calls Try.prog 37 #[.pointer (some ⟨g, 0, none⟩)] w fun e w' => e = .returned (.int .i64 0) ∧ w' = w := by
  have c9 := (TB.cell T0 9).trans (rfl : _ = some (Value.int .i64 0))
  go_enter Try.func37, Try.ntmps37
  go_wp2_with (first | (go_at_call 59; refine (load64 ⟨g, 9, none⟩ 0 _ c9).mono ?_; rintro e w2 ⟨rfl, rfl⟩))
  go_ret
  exact ⟨rfl, rfl⟩
theorem laid_done (g : Nat) (r : S36) (p q : Nat → Int) (w : World) (T0 : Done g r p q w) : Calls Try.prog 37 #[.pointer (some ⟨g, 0, none⟩)] w fun e w' => e = .returned (.int .i64 1) ∧ w' = w := by
  have c9 := (TB.cell T0 9).trans (rfl : _ = some (Value.int .i64 1))
  go_enter Try.func37, Try.ntmps37
  go_wp2_with (first | (go_at_call 59; refine (load64 ⟨g, 9, none⟩ 1 _ c9).mono ?_; rintro e w2 ⟨rfl, rfl⟩))
  go_ret
  exact ⟨rfl, rfl⟩
theorem laid_nil (w : World) : Calls Try.prog 37 #[.pointer none] w fun e w' => e = .returned (.int .i64 0) ∧ w' = w := by
  go_enter Try.func37, Try.ntmps37
  go_wp2_with fail
  go_ret
  exact ⟨rfl, rfl⟩
set_option maxRecDepth 100000 in
set_option maxHeartbeats 4000000 in
theorem new_yes (r : S36) (w : World) (h : rates_Check.f r.f0 r.f1 r.f2 r.f3 r.f4 r.f5 = some true) :
    Calls Try.prog 34 #[.agg #[.int .i64 r.f0, .int .i64 r.f1, .int .i64 r.f2, .int .i64 r.f3, .int .i64 r.f4, .int .i64 r.f5]] w fun e w' => ∃ g, e = .returned (.pointer (some ⟨g, 0, none⟩)) ∧ w.heap.size ≤ g ∧ Raw g r w' ∧ Below w.heap.size w w' := by
  have H := Aside0.mk h
  clear h
  go_enter Try.func34, Try.ntmps34
  go_wp2_with (first | (go_at_call 28; refine (rates_Check.calls _ _ _ _ _ _ _ _ H.out).mono ?_; rintro e w2 ⟨rfl, hb⟩; have KB := blk_below (blk_new w _) hb; have b0 := (blk_cell KB 0).trans (rfl : _ = some (Value.int .i64 r.f0)); have b1 := (blk_cell KB 1).trans (rfl : _ = some (Value.int .i64 r.f1)); have b2 := (blk_cell KB 2).trans (rfl : _ = some (Value.int .i64 r.f2)); have b3 := (blk_cell KB 3).trans (rfl : _ = some (Value.int .i64 r.f3)); have b4 := (blk_cell KB 4).trans (rfl : _ = some (Value.int .i64 r.f4)); have b5 := (blk_cell KB 5).trans (rfl : _ = some (Value.int .i64 r.f5)); have HB := Aside0.mk (below_step (below_alloc (Below.refl w.heap.size w) _) hb); clear KB hb))
  go_ret
  have hs := HB.out.size
  refine ⟨w2.heap.size, rfl, hs, ?_, below_alloc HB.out _⟩
  unfold Raw TB
  refine (blk_new w2 _).trans ?_
  congr 1
theorem new_no (r : S36) (w : World) (h : rates_Check.f r.f0 r.f1 r.f2 r.f3 r.f4 r.f5 = some false) :
    Calls Try.prog 34 #[.agg #[.int .i64 r.f0, .int .i64 r.f1, .int .i64 r.f2, .int .i64 r.f3, .int .i64 r.f4, .int .i64 r.f5]] w fun e w' => e = .returned (.pointer none) ∧ Below w.heap.size w w' := by
  have H := Aside0.mk h
  clear h
  go_enter Try.func34, Try.ntmps34
  go_wp2_with (first | (go_at_call 28; refine (rates_Check.calls _ _ _ _ _ _ _ _ H.out).mono ?_; rintro e w2 ⟨rfl, hb⟩; have HB := Aside0.mk (below_step (below_alloc (Below.refl w.heap.size w) _) hb); clear hb))
  go_ret
  exact ⟨rfl, HB.out⟩
end Go.Proofs.Ytomaojmccchibaa.X
