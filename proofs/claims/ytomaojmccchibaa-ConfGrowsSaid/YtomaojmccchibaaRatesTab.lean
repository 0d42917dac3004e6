/- The table of rates in memory: its block, and how it is laid: sync.Once in one goroutine. -/
import Derived.Test.YtomaojmccchibaaXx4
import Derived.Tactics2
import Derived.Defers
import Derived.Laws.Pointers
import Derived.Laws.LoneSync
import Derived.RegionTactic
import Derived.RegionCalls
import Derived.Deep.RegionWith
import Derived.Outline
namespace Go.Proofs.Ytomaojmccchibaa.X
open Go.RowKit Go.Proofs.YtomaojmccchibaaW.PrintWords Go.Proofs.YtomaojmccchibaaW.PrintLast Go.Proofs.YtomaojmccchibaaW.PrintMore
set_option linter.unusedVariables false
set_option linter.unusedSimpArgs false

/-- The cells of a table: rates; done, the lock; how often it was laid; the peaks upwards and downwards; the most. -/
def tc (r : S36) (d mu l : Int) (u v : Nat → Int) (m : Int) : List Value :=
  [.int .i64 r.f0, .int .i64 r.f1, .int .i64 r.f2, .int .i64 r.f3, .int .i64 r.f4, .int .i64 r.f5, .int .u32 d, .int .i32 mu, .int .u32 0, .int .i64 l] ++
    ((List.range 65).map (fun i => Value.int .i64 (u i)) ++ ((List.range 65).map (fun i => Value.int .i64 (v i)) ++ [.int .i64 m]))
/-- The table's block. -/
def TB (g : Nat) (r : S36) (d mu l : Int) (u v : Nat → Int) (m : Int) (w : World) : Prop := w.heap[g]? = some (.cells (tc r d mu l u v m).toArray 90 (0, 0))
section
variable {g : Nat} {r : S36} {d mu l m : Int} {u v : Nat → Int} {w w' : World}
theorem tc_len : (tc r d mu l u v m).length = 141 := by simp [tc]
theorem tc_up {i : Nat} (h : i < 65) : (tc r d mu l u v m)[10 + i]? = some (.int .i64 (u i)) := by
  unfold tc
  rw [List.getElem?_append_right (by simp), List.getElem?_append_left (by simp; omega), List.getElem?_map, List.getElem?_range (by simp; omega)]
  simp
theorem tc_down {i : Nat} (h : i < 65) : (tc r d mu l u v m)[75 + i]? = some (.int .i64 (v i)) := by
  unfold tc
  rw [List.getElem?_append_right (by simp; omega), List.getElem?_append_right (by simp; omega), List.getElem?_append_left (by simp; omega), List.getElem?_map, List.getElem?_range (by simp; omega)]
  simp
  congr 1; omega
theorem tc_most : (tc r d mu l u v m)[140]? = some (.int .i64 m) := by
  unfold tc
  rw [List.getElem?_append_right (by simp), List.getElem?_append_right (by simp), List.getElem?_append_right (by simp)]
  simp
theorem TB.cell (h : TB g r d mu l u v m w) (i : Nat) : w.cell? ⟨g, i, none⟩ = (tc r d mu l u v m)[i]? := by
  rw [blk_cell h i, List.getElem?_toArray]
theorem TB.frozen (h : TB g r d mu l u v m w) (i : Nat) : w.frozen? ⟨g, i, none⟩ = false := blk_frozen h i
theorem TB.lt (h : TB g r d mu l u v m w) : g < w.heap.size := blk_lt h
theorem TB.below (h : TB g r d mu l u v m w) (hb : Below w.heap.size w w') : TB g r d mu l u v m w' := blk_below h hb
theorem TB.far (h : TB g r d mu l u v m w) {p : Addr} (hp : g ≠ p.block) (x : Value) : TB g r d mu l u v m (w.setCell p x) := blk_far h hp x
theorem TB.kept {S : Nat → Prop} (h : TB g r d mu l u v m w) (hk : Kept w w' S) (hg : ¬ S g) : TB g r d mu l u v m w' := blk_kept h hk hg
theorem TB.put (h : TB g r d mu l u v m w) {i : Nat} {x : Value} {r' : S36} {d' mu' l' m' : Int} {u' v' : Nat → Int} (e : (tc r d mu l u v m).set i x = tc r' d' mu' l' u' v' m') : TB g r' d' mu' l' u' v' m' (w.setCell ⟨g, i, none⟩ x) :=
  blk_put h i x (by rw [List.setIfInBounds_toArray, e])
theorem set_done (d' : Int) : (tc r d mu l u v m).set 6 (.int .u32 d') = tc r d' mu l u v m := rfl
theorem set_lock (mu' : Int) : (tc r d mu l u v m).set 7 (.int .i32 mu') = tc r d mu' l u v m := rfl
theorem set_laid (l' : Int) : (tc r d mu l u v m).set 9 (.int .i64 l') = tc r d mu l' u v m := rfl
def upd (u : Nat → Int) (i : Nat) (x : Int) : Nat → Int := fun j => if j = i then x else u j
theorem range_set (u : Nat → Int) (i n : Nat) (x : Int) : ((List.range n).map (fun i => Value.int .i64 (u i))).set i (.int .i64 x) = (List.range n).map (fun j => Value.int .i64 (upd u i x j)) := by
  apply List.ext_getElem?
  intro j
  rw [List.getElem?_set]
  simp only [List.length_map, List.length_range, List.getElem?_map]
  by_cases hj : j < n
  · rw [List.getElem?_range hj]
    by_cases h : i = j
    · subst h; simp [upd, hj]
    · have : ¬ j = i := fun e => h e.symm
      simp [upd, h, this]
  · rw [List.getElem?_eq_none (by simp; omega)]
    by_cases h : i = j
    · subst h; simp [hj]
    · simp [h]
theorem set_up {i : Nat} (h : i < 65) (x : Int) : (tc r d mu l u v m).set (10 + i) (.int .i64 x) = tc r d mu l (upd u i x) v m := by
  unfold tc
  rw [List.set_append_right _ _ (by simp), List.set_append_left _ _ (by simp; omega)]
  simp only [List.length_cons, List.length_nil, Nat.reduceAdd, Nat.add_sub_cancel_left]
  rw [range_set]
theorem set_down {i : Nat} (h : i < 65) (x : Int) : (tc r d mu l u v m).set (75 + i) (.int .i64 x) = tc r d mu l u (upd v i x) m := by
  unfold tc
  rw [List.set_append_right _ _ (by simp; omega), List.set_append_right _ _ (by simp; omega), List.set_append_left _ _ (by simp; omega)]
  simp only [List.length_cons, List.length_nil, List.length_map, List.length_range, Nat.reduceAdd]
  rw [show 75 + i - 10 - 65 = i by omega, range_set]
theorem set_most (x : Int) : (tc r d mu l u v m).set 140 (.int .i64 x) = tc r d mu l u v x := by
  unfold tc
  rw [List.set_append_right _ _ (by simp), List.set_append_right _ _ (by simp), List.set_append_right _ _ (by simp)]
  simp
end
/-- All but block g is as it was. -/
structure But (g : Nat) (w w' : World) : Prop where
  same : Below 0 w w'
  keep : Kept w w' (fun k => k = g)
theorem But.refl (g : Nat) (w : World) : But g w w := ⟨Below.refl _ _, Kept.refl _ _⟩
theorem But.trans {g : Nat} {a b c : World} (h : But g a b) (k : But g b c) : But g a c := ⟨h.same.trans k.same, h.keep.then_ k.keep (fun _ hk => .inl hk)⟩
theorem But.below {g : Nat} {a b c : World} (h : But g a b) (hb : Below b.heap.size b c) : But g a c := ⟨h.same.trans (hb.mono (Nat.zero_le _)), h.keep.below hb⟩
theorem But.set {g : Nat} {a b : World} (h : But g a b) (i : Nat) (x : Value) : But g a (b.setCell ⟨g, i, none⟩ x) := ⟨h.same.setCell (Nat.zero_le _) x, h.keep.setCell (.inl rfl) x⟩
theorem But.drew {g : Nat} {a b : World} (h : But g a b) : But g a b.drew := ⟨h.same.drew, h.keep⟩
/-- Where g is new since. -/
theorem But.to {g B : Nat} {w a b : World} (h : But g a b) (hb : Below B w a) (hB : B ≤ a.heap.size) (hg : B ≤ g) : Below B w b :=
  ⟨h.same.os.trans hb.os, h.same.tape.trans hb.tape, h.same.output.trans hb.output, Nat.le_trans hb.size h.same.size, fun i hi => (h.keep.2 i (by omega) (by omega)).trans (hb.block i hi)⟩
theorem But.blk {g i : Nat} {o : Obj} {a b : World} (h : But g a b) (hb : a.heap[i]? = some o) (hne : i ≠ g) : b.heap[i]? = some o := blk_kept hb h.keep hne
/-! ### sync's parts (one goroutine) -/
theorem disable (w : World) : (callFunc 94 #[]).run Try.prog w = .ok (.value (.tuple #[])) w := run_call_mark0 Try.func94 (by kernel_rfl) (by kernel_rfl) (by kernel_rfl) .disable (by kernel_rfl) w
theorem enable (w : World) : (callFunc 96 #[]).run Try.prog w = .ok (.value (.tuple #[])) w := run_call_mark0 Try.func96 (by kernel_rfl) (by kernel_rfl) (by kernel_rfl) .enable (by kernel_rfl) w
theorem acquire (a : Addr) (w : World) : (callFunc 97 #[.pointer (some a)]).run Try.prog w = .ok (.value (.tuple #[])) w := run_call_marked Try.func97 (by kernel_rfl) (by kernel_rfl) (by kernel_rfl) .acquire (by kernel_rfl) a w
theorem releaseMerge (a : Addr) (w : World) : (callFunc 99 #[.pointer (some a)]).run Try.prog w = .ok (.value (.tuple #[])) w := run_call_marked Try.func99 (by kernel_rfl) (by kernel_rfl) (by kernel_rfl) .releaseMerge (by kernel_rfl) a w
set_option maxRecDepth 100000 in
set_option maxHeartbeats 1600000 in
/-- The flag is stored, as a deferred call. -/
theorem store_deferred (a : Addr) (x : Value) (u : FrameMode) (w : World) (hc : w.cell? a = some x) (hz : w.frozen? a = false) :
    CallsD Try.prog 85 #[.pointer (some a), .bool true] u w fun e u' w' => u' = u ∧ (e = .returned (.tuple #[]) ∧ w' = w.drew.setCell a (.int .u32 1)) := by
  have hc' : w.drew.cell? a = some x := by go_simp
  have hz' : w.drew.frozen? a = false := by go_simp
  have hst := run_call_store (P := Try.prog) Try.func91 (by kernel_rfl) (by kernel_rfl) (by kernel_rfl) (by kernel_rfl) (k := .u32) (y := 1) hc' hz'
  go_enter_d Try.func85, Try.ntmps85
  go_wp2
  go_region_calls
  all_goals (go_end0; exact ⟨rfl, rfl⟩)
set_option maxRecDepth 100000 in
set_option maxHeartbeats 1600000 in
/-- The lock, held, is let go, as a deferred call. -/
theorem unlock_deferred (a : Addr) (u : FrameMode) (w : World) (hc : w.cell? a = some (.int .i32 1)) (hz : w.frozen? a = false) :
    CallsD Try.prog 84 #[.pointer (some a)] u w fun e u' w' => u' = u ∧ (e = .returned (.tuple #[]) ∧ w' = w.setCell a (.int .i32 0)) := by
  have hd := disable
  have he := enable
  have hr := releaseMerge
  have hadd := run_call_add (P := Try.prog) Try.func100 (by kernel_rfl) (by kernel_rfl) (by kernel_rfl) .i32 (by kernel_rfl) (y := -1) (s := 0) hc hz (by simp [go_sem]; rfl)
  have hcv := run_convert_to_unsafe (P := Try.prog) (src := 120) (dst := 124) Try.underlying120 Try.underlying124 (by kernel_rfl) hc
  go_enter_d Try.func84, Try.ntmps84
  go_wp2
  go_end0
  go_wp2
  go_end0
  exact ⟨rfl, rfl⟩
set_option maxRecDepth 100000 in
set_option maxHeartbeats 1600000 in
/-- The lock, free, is taken. -/
theorem lock_free (a : Addr) (w : World) (hc : w.cell? a = some (.int .i32 0)) (hz : w.frozen? a = false) :
    Calls Try.prog 83 #[.pointer (some a)] w fun e w' => e = .returned (.tuple #[]) ∧ w' = w.setCell a (.int .i32 1) := by
  have hd := disable
  have he := enable
  have ha := acquire
  have hcas := run_call_cas_hit (P := Try.prog) Try.func95 (by kernel_rfl) (by kernel_rfl) (by kernel_rfl) .i32 (by kernel_rfl) (y := 1) hc hz
  have hc' : (w.setCell a (.int .i32 1)).cell? a = some (.int .i32 1) := World.cell?_setCell_same w a _ hc
  have hcv := run_convert_to_unsafe (P := Try.prog) (src := 120) (dst := 124) Try.underlying120 Try.underlying124 (by kernel_rfl) hc'
  go_enter Try.func83, Try.ntmps83
  go_wp2
  first | go_end0 | (simp only [Exit.inBlock, Exit.then]; refine bodyPost_ret (results_none rfl _ _ _) rfl ?_) | refine bodyPost_ret (results_none rfl _ _ _) rfl ?_
  go_wp2
  go_end0
  exact ⟨rfl, rfl⟩
end Go.Proofs.Ytomaojmccchibaa.X
