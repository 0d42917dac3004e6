/- Texts of this seat in one: RatesTab, RatesLay, RatesOnce. -/
import Derived.Test.YtomaojmccchibaaXx4
import Derived.Tactics2
import Derived.Defers
import Derived.Laws.Pointers
import Derived.Laws.LoneSync
import Derived.RegionTactic
import Derived.RegionCalls
import Derived.Deep.RegionWith
import Derived.Outline
import Derived.Deep.RegionHeld3
import Derived.Deep.LoopGhost
import Derived.BigRegion
import Derived.Laws.NewBlocks
/- The table of rates in memory: its block, and how it is laid: sync.Once in one goroutine. -/
namespace Go.Proofs.Ytomaojmccchibaa.X
open Go.RowKit Go.Proofs.YtomaojmccchibaaW.PrintWords Go.Proofs.YtomaojmccchibaaW.PrintLast Go.Proofs.YtomaojmccchibaaW.PrintMore
set_option linter.unusedVariables false
set_option linter.unusedSimpArgs false

/-- The cells of a table: rates; done, the lock; how often it was laid; the peaks upwards and downwards; the most. -/
def tc (r : S36) (d mu l : Int) (u v : Nat → Int) (m : Int) : List Value :=
  [.int .i64 r.f0, .int .i64 r.f1, .int .i64 r.f2, .int .i64 r.f3, .int .i64 r.f4, .int .i64 r.f5, .int .u32 d, .int .i32 mu, .int .u32 0, .int .i64 l] ++
    ((List.range 65).map (fun i => Value.int .i64 (u i)) ++ ((List.range 65).map (fun i => Value.int .i64 (v i)) ++ [.int .i64 m]))
/-- The table's block. -/
def TB (g : Nat) (r : S36) (d mu l : Int) (u v : Nat → Int) (m : Int) (w : World) : Prop := w.heap[g]? = some (.cells (tc r d mu l u v m).toArray 90 (0, 0))
section
variable {g : Nat} {r : S36} {d mu l m : Int} {u v : Nat → Int} {w w' : World}
theorem tc_len : (tc r d mu l u v m).length = 141 := by simp [tc]
theorem tc_up {i : Nat} (h : i < 65) : (tc r d mu l u v m)[10 + i]? = some (.int .i64 (u i)) := by
  unfold tc
  rw [List.getElem?_append_right (by simp), List.getElem?_append_left (by simp; omega), List.getElem?_map, List.getElem?_range (by simp; omega)]
  simp
theorem tc_down {i : Nat} (h : i < 65) : (tc r d mu l u v m)[75 + i]? = some (.int .i64 (v i)) := by
  unfold tc
  rw [List.getElem?_append_right (by simp; omega), List.getElem?_append_right (by simp; omega), List.getElem?_append_left (by simp; omega), List.getElem?_map, List.getElem?_range (by simp; omega)]
  simp
  congr 1; omega
theorem tc_most : (tc r d mu l u v m)[140]? = some (.int .i64 m) := by
  unfold tc
  rw [List.getElem?_append_right (by simp), List.getElem?_append_right (by simp), List.getElem?_append_right (by simp)]
  simp
theorem TB.cell (h : TB g r d mu l u v m w) (i : Nat) : w.cell? ⟨g, i, none⟩ = (tc r d mu l u v m)[i]? := by
  rw [blk_cell h i, List.getElem?_toArray]
theorem TB.frozen (h : TB g r d mu l u v m w) (i : Nat) : w.frozen? ⟨g, i, none⟩ = false := blk_frozen h i
theorem TB.lt (h : TB g r d mu l u v m w) : g < w.heap.size := blk_lt h
theorem TB.below (h : TB g r d mu l u v m w) (hb : Below w.heap.size w w') : TB g r d mu l u v m w' := blk_below h hb
theorem TB.far (h : TB g r d mu l u v m w) {p : Addr} (hp : g ≠ p.block) (x : Value) : TB g r d mu l u v m (w.setCell p x) := blk_far h hp x
theorem TB.kept {S : Nat → Prop} (h : TB g r d mu l u v m w) (hk : Kept w w' S) (hg : ¬ S g) : TB g r d mu l u v m w' := blk_kept h hk hg
theorem TB.put (h : TB g r d mu l u v m w) {i : Nat} {x : Value} {r' : S36} {d' mu' l' m' : Int} {u' v' : Nat → Int} (e : (tc r d mu l u v m).set i x = tc r' d' mu' l' u' v' m') : TB g r' d' mu' l' u' v' m' (w.setCell ⟨g, i, none⟩ x) :=
  blk_put h i x (by rw [List.setIfInBounds_toArray, e])
theorem set_done (d' : Int) : (tc r d mu l u v m).set 6 (.int .u32 d') = tc r d' mu l u v m := rfl
theorem set_lock (mu' : Int) : (tc r d mu l u v m).set 7 (.int .i32 mu') = tc r d mu' l u v m := rfl
theorem set_laid (l' : Int) : (tc r d mu l u v m).set 9 (.int .i64 l') = tc r d mu l' u v m := rfl
def upd (u : Nat → Int) (i : Nat) (x : Int) : Nat → Int := fun j => if j = i then x else u j
theorem range_set (u : Nat → Int) (i n : Nat) (x : Int) : ((List.range n).map (fun i => Value.int .i64 (u i))).set i (.int .i64 x) = (List.range n).map (fun j => Value.int .i64 (upd u i x j)) := by
  apply List.ext_getElem?
  intro j
  rw [List.getElem?_set]
  simp only [List.length_map, List.length_range, List.getElem?_map]
  by_cases hj : j < n
  · rw [List.getElem?_range hj]
    by_cases h : i = j
    · subst h; simp [upd, hj]
    · have : ¬ j = i := fun e => h e.symm
      simp [upd, h, this]
  · rw [List.getElem?_eq_none (by simp; omega)]
    by_cases h : i = j
    · subst h; simp [hj]
    · simp [h]
theorem set_up {i : Nat} (h : i < 65) (x : Int) : (tc r d mu l u v m).set (10 + i) (.int .i64 x) = tc r d mu l (upd u i x) v m := by
  unfold tc
  rw [List.set_append_right _ _ (by simp), List.set_append_left _ _ (by simp; omega)]
  simp only [List.length_cons, List.length_nil, Nat.reduceAdd, Nat.add_sub_cancel_left]
  rw [range_set]
theorem set_down {i : Nat} (h : i < 65) (x : Int) : (tc r d mu l u v m).set (75 + i) (.int .i64 x) = tc r d mu l u (upd v i x) m := by
  unfold tc
  rw [List.set_append_right _ _ (by simp; omega), List.set_append_right _ _ (by simp; omega), List.set_append_left _ _ (by simp; omega)]
  simp only [List.length_cons, List.length_nil, List.length_map, List.length_range, Nat.reduceAdd]
  rw [show 75 + i - 10 - 65 = i by omega, range_set]
theorem set_most (x : Int) : (tc r d mu l u v m).set 140 (.int .i64 x) = tc r d mu l u v x := by
  unfold tc
  rw [List.set_append_right _ _ (by simp), List.set_append_right _ _ (by simp), List.set_append_right _ _ (by simp)]
  simp
end
/-- All but block g is as it was. -/
structure But (g : Nat) (w w' : World) : Prop where
  same : Below 0 w w'
  keep : Kept w w' (fun k => k = g)
theorem But.refl (g : Nat) (w : World) : But g w w := ⟨Below.refl _ _, Kept.refl _ _⟩
theorem But.trans {g : Nat} {a b c : World} (h : But g a b) (k : But g b c) : But g a c := ⟨h.same.trans k.same, h.keep.then_ k.keep (fun _ hk => .inl hk)⟩
theorem But.below {g : Nat} {a b c : World} (h : But g a b) (hb : Below b.heap.size b c) : But g a c := ⟨h.same.trans (hb.mono (Nat.zero_le _)), h.keep.below hb⟩
theorem But.set {g : Nat} {a b : World} (h : But g a b) (i : Nat) (x : Value) : But g a (b.setCell ⟨g, i, none⟩ x) := ⟨h.same.setCell (Nat.zero_le _) x, h.keep.setCell (.inl rfl) x⟩
theorem But.drew {g : Nat} {a b : World} (h : But g a b) : But g a b.drew := ⟨h.same.drew, h.keep⟩
/-- Where g is new since. -/
theorem But.to {g B : Nat} {w a b : World} (h : But g a b) (hb : Below B w a) (hB : B ≤ a.heap.size) (hg : B ≤ g) : Below B w b :=
  ⟨h.same.os.trans hb.os, h.same.tape.trans hb.tape, h.same.output.trans hb.output, Nat.le_trans hb.size h.same.size, fun i hi => (h.keep.2 i (by omega) (by omega)).trans (hb.block i hi)⟩
theorem But.blk {g i : Nat} {o : Obj} {a b : World} (h : But g a b) (hb : a.heap[i]? = some o) (hne : i ≠ g) : b.heap[i]? = some o := blk_kept hb h.keep hne
/-! ### sync's parts (one goroutine) -/
theorem disable (w : World) : (callFunc 94 #[]).run Try.prog w = .ok (.value (.tuple #[])) w := run_call_mark0 Try.func94 (by kernel_rfl) (by kernel_rfl) (by kernel_rfl) .disable (by kernel_rfl) w
theorem enable (w : World) : (callFunc 96 #[]).run Try.prog w = .ok (.value (.tuple #[])) w := run_call_mark0 Try.func96 (by kernel_rfl) (by kernel_rfl) (by kernel_rfl) .enable (by kernel_rfl) w
theorem acquire (a : Addr) (w : World) : (callFunc 97 #[.pointer (some a)]).run Try.prog w = .ok (.value (.tuple #[])) w := run_call_marked Try.func97 (by kernel_rfl) (by kernel_rfl) (by kernel_rfl) .acquire (by kernel_rfl) a w
theorem releaseMerge (a : Addr) (w : World) : (callFunc 99 #[.pointer (some a)]).run Try.prog w = .ok (.value (.tuple #[])) w := run_call_marked Try.func99 (by kernel_rfl) (by kernel_rfl) (by kernel_rfl) .releaseMerge (by kernel_rfl) a w
set_option maxRecDepth 100000 in
set_option maxHeartbeats 1600000 in
/-- The flag is stored, as a deferred call. -/
theorem store_deferred (a : Addr) (x : Value) (u : FrameMode) (w : World) (hc : w.cell? a = some x) (hz : w.frozen? a = false) :
    CallsD Try.prog 85 #[.pointer (some a), .bool true] u w fun e u' w' => u' = u ∧ (e = .returned (.tuple #[]) ∧ w' = w.drew.setCell a (.int .u32 1)) := by
  have hc' : w.drew.cell? a = some x := by go_simp
  have hz' : w.drew.frozen? a = false := by go_simp
  have hst := run_call_store (P := Try.prog) Try.func91 (by kernel_rfl) (by kernel_rfl) (by kernel_rfl) (by kernel_rfl) (k := .u32) (y := 1) hc' hz'
  go_enter_d Try.func85, Try.ntmps85
  go_wp2
  go_region_calls
  all_goals (go_end0; exact ⟨rfl, rfl⟩)
set_option maxRecDepth 100000 in
set_option maxHeartbeats 1600000 in
/-- The lock, held, is let go, as a deferred call. -/
theorem unlock_deferred (a : Addr) (u : FrameMode) (w : World) (hc : w.cell? a = some (.int .i32 1)) (hz : w.frozen? a = false) :
    CallsD Try.prog 84 #[.pointer (some a)] u w fun e u' w' => u' = u ∧ (e = .returned (.tuple #[]) ∧ w' = w.setCell a (.int .i32 0)) := by
  have hd := disable
  have he := enable
  have hr := releaseMerge
  have hadd := run_call_add (P := Try.prog) Try.func100 (by kernel_rfl) (by kernel_rfl) (by kernel_rfl) .i32 (by kernel_rfl) (y := -1) (s := 0) hc hz (by simp [go_sem]; rfl)
  have hcv := run_convert_to_unsafe (P := Try.prog) (src := 120) (dst := 124) Try.underlying120 Try.underlying124 (by kernel_rfl) hc
  go_enter_d Try.func84, Try.ntmps84
  go_wp2
  go_end0
  go_wp2
  go_end0
  exact ⟨rfl, rfl⟩
set_option maxRecDepth 100000 in
set_option maxHeartbeats 1600000 in
/-- The lock, free, is taken. -/
theorem lock_free (a : Addr) (w : World) (hc : w.cell? a = some (.int .i32 0)) (hz : w.frozen? a = false) :
    Calls Try.prog 83 #[.pointer (some a)] w fun e w' => e = .returned (.tuple #[]) ∧ w' = w.setCell a (.int .i32 1) := by
  have hd := disable
  have he := enable
  have ha := acquire
  have hcas := run_call_cas_hit (P := Try.prog) Try.func95 (by kernel_rfl) (by kernel_rfl) (by kernel_rfl) .i32 (by kernel_rfl) (y := 1) hc hz
  have hc' : (w.setCell a (.int .i32 1)).cell? a = some (.int .i32 1) := World.cell?_setCell_same w a _ hc
  have hcv := run_convert_to_unsafe (P := Try.prog) (src := 120) (dst := 124) Try.underlying120 Try.underlying124 (by kernel_rfl) hc'
  go_enter Try.func83, Try.ntmps83
  go_wp2
  first | go_end0 | (simp only [Exit.inBlock, Exit.then]; refine bodyPost_ret (results_none rfl _ _ _) rfl ?_) | refine bodyPost_ret (results_none rfl _ _ _) rfl ?_
  go_wp2
  go_end0
  exact ⟨rfl, rfl⟩
end Go.Proofs.Ytomaojmccchibaa.X
/- rates.Table's lay: all peaks, and the most of them. -/
namespace Go.Proofs.Ytomaojmccchibaa.X
open Go.RowKit Go.Proofs.YtomaojmccchibaaW.PrintWords Go.Proofs.YtomaojmccchibaaW.PrintLast Go.Proofs.YtomaojmccchibaaW.PrintMore
attribute [local go_sem] max2_int min2_int max_two min_two max_three min_three max_four min_four
set_option linter.unusedVariables false
set_option linter.unusedSimpArgs false

theorem add64 (a : Addr) (x y s : Int) (hs : wrap64 (x + y) = s) (w : World) (hc : w.cell? a = some (.int .i64 x)) (hz : w.frozen? a = false) :
    Calls Try.prog 76 #[.pointer (some a), .int .i64 y] w fun e w' => e = .returned (.int .i64 s) ∧ w' = w.setCell a (.int .i64 s) := by
  subst hs
  have hadd := run_call_add (P := Try.prog) Try.func86 (by kernel_rfl) (by kernel_rfl) (by kernel_rfl) .i64 (by kernel_rfl) (y := y) (s := wrap64 (x + y)) hc hz (by simp [go_sem, wrap64, IntKind.wrap_i64])
  go_enter Try.func76, Try.ntmps76
  go_wp2
  go_ret
  exact ⟨rfl, rfl⟩
theorem load64 (a : Addr) (x : Int) (w : World) (hc : w.cell? a = some (.int .i64 x)) :
    Calls Try.prog 59 #[.pointer (some a)] w fun e w' => e = .returned (.int .i64 x) ∧ w' = w := by
  have hl := run_call_load (P := Try.prog) Try.func78 (by kernel_rfl) (by kernel_rfl) (by kernel_rfl) .i64 (by kernel_rfl) hc
  go_enter Try.func59, Try.ntmps59
  go_wp2
  go_ret
  exact ⟨rfl, rfl⟩
/-- The first k of p; 0 behind them. -/
def upK (p : Nat → Int) (k : Nat) : Nat → Int := fun i => if i < k then p i else 0
theorem upK_zero (p : Nat → Int) : upK p 0 = fun _ => 0 := by funext i; simp [upK]
theorem upK_succ (p : Nat → Int) (k : Nat) : upd (upK p k) k (p k) = upK p (k + 1) := by
  funext i
  unfold upd upK
  by_cases h : i = k
  · subst h; simp
  · rw [if_neg h]
    by_cases h2 : i < k
    · rw [if_pos h2, if_pos (by omega)]
    · rw [if_neg h2, if_neg (by omega)]
/-- The most of the first k of both. -/
def mK (p q : Nat → Int) : Nat → Int
  | 0 => 0
  | k + 1 => mx (mx (mK p q k) (p k)) (q k)
/-- What a table's peaks are. -/
def PeaksOf (r : S36) (p q : Nat → Int) : Prop := ∀ i : Nat, i < 65 → rates_Rates_peak.f 20 r.f0 r.f1 r.f2 r.f3 r.f4 r.f5 (i : Int) 1 = some (p i) ∧ rates_Rates_peak.f 20 r.f0 r.f1 r.f2 r.f3 r.f4 r.f5 (i : Int) (-1) = some (q i)
/-- The table, and all else as it was. -/
def SG (w0 : World) (g : Nat) (r : S36) (d mu l : Int) (u v : Nat → Int) (m : Int) (w : World) : Prop := TB g r d mu l u v m w ∧ But g w0 w
def Six (g : Nat) (r : S36) (w : World) : Prop := w.cell? ⟨g, 0, none⟩ = some (.int .i64 r.f0) ∧ w.cell? ⟨g, 1, none⟩ = some (.int .i64 r.f1) ∧ w.cell? ⟨g, 2, none⟩ = some (.int .i64 r.f2) ∧ w.cell? ⟨g, 3, none⟩ = some (.int .i64 r.f3) ∧ w.cell? ⟨g, 4, none⟩ = some (.int .i64 r.f4) ∧ w.cell? ⟨g, 5, none⟩ = some (.int .i64 r.f5)
theorem TB.six {g : Nat} {r : S36} {d mu l m : Int} {u v : Nat → Int} {w : World} (h : TB g r d mu l u v m w) : Six g r w := ⟨(h.cell 0).trans rfl, (h.cell 1).trans rfl, (h.cell 2).trans rfl, (h.cell 3).trans rfl, (h.cell 4).trans rfl, (h.cell 5).trans rfl⟩
theorem SG.drew {w0 w : World} {g : Nat} {r : S36} {d mu l m : Int} {u v : Nat → Int} (h : SG w0 g r d mu l u v m w) : SG w0 g r d mu l u v m w.drew := ⟨h.1, h.2.drew⟩
theorem SG.below {w0 w w' : World} {g : Nat} {r : S36} {d mu l m : Int} {u v : Nat → Int} (h : SG w0 g r d mu l u v m w) (hb : Below w.heap.size w w') : SG w0 g r d mu l u v m w' := ⟨h.1.below hb, h.2.below hb⟩
theorem SG.put {w0 w : World} {g : Nat} {r r' : S36} {d mu l m d' mu' l' m' : Int} {u v u' v' : Nat → Int} (h : SG w0 g r d mu l u v m w) {i : Nat} {x : Value} (e : (tc r d mu l u v m).set i x = tc r' d' mu' l' u' v' m') : SG w0 g r' d' mu' l' u' v' m' (w.setCell ⟨g, i, none⟩ x) := ⟨h.1.put e, h.2.set i x⟩
def slotV (g i : Nat) (w : World) : Value := (w.cell? ⟨g, i, none⟩).getD undef
theorem TB.slot {g : Nat} {r : S36} {d mu l m : Int} {u v : Nat → Int} {w : World} (h : TB g r d mu l u v m w) {i : Nat} (hi : i < 141) : w.cell? ⟨g, i, none⟩ = some (slotV g i w) := by
  unfold slotV
  rw [h.cell i, List.getElem?_eq_getElem (by rw [tc_len]; exact hi)]; rfl
def intV (g i : Nat) (w : World) : Int := match w.cell? ⟨g, i, none⟩ with | some (.int _ n) => n | _ => 0
theorem TB.most {g : Nat} {r : S36} {d mu l m : Int} {u v : Nat → Int} {w : World} (h : TB g r d mu l u v m w) : w.cell? ⟨g, 140, none⟩ = some (.int .i64 m) ∧ intV g 140 w = m := by
  have hc := (h.cell 140).trans tc_most
  exact ⟨hc, by unfold intV; rw [hc]⟩
theorem lk {w0 w : World} {g k : Nat} (hk : k < 65) {r : S36} {d mu l : Int} {u v : Nat → Int} (h : ∃ m, SG w0 g r d mu l u v m w) : w.cell? ⟨g, 140, none⟩ = some (.int .i64 (intV g 140 w)) ∧ w.cell? ⟨g, 10 + k, none⟩ = some (.int .i64 (u k)) ∧ w.cell? ⟨g, 75 + k, none⟩ = some (.int .i64 (v k)) ∧ w.frozen? ⟨g, 140, none⟩ = false ∧ Aside0 (∃ m, SG w0 g r d mu l u v m w) := by
  obtain ⟨m, h⟩ := h
  exact ⟨by rw [h.1.most.2]; exact h.1.most.1, (h.1.cell (10 + k)).trans (tc_up hk), (h.1.cell (75 + k)).trans (tc_down hk), h.1.frozen 140, Aside0.mk ⟨m, h⟩⟩
theorem upK_self (p : Nat → Int) (k : Nat) : upK p (k + 1) k = p k := by simp [upK]
set_option maxRecDepth 100000 in
set_option maxHeartbeats 4000000 in
theorem lay_any (g : Nat) (r : S36) (mu : Int) (p q : Nat → Int) (w : World) (T0 : TB g r 0 mu 0 (fun _ => 0) (fun _ => 0) 0 w) (HP0 : PeaksOf r p q) :
    Calls Try.prog 58 #[.pointer (some ⟨g, 0, none⟩)] w fun e w' => e = .returned (.tuple #[]) ∧ TB g r 0 mu 1 (upK p 65) (upK q 65) (mK p q 65) w' ∧ But g w w' := by
  have HP := Aside0.mk HP0
  have c9 := (T0.cell 9).trans (rfl : _ = some (Value.int .i64 0))
  have z9 := T0.frozen 9
  have T1 := Aside0.mk (T0.put (i := 9) (x := .int .i64 1) (set_laid 1))
  have K1 := Aside0.mk ((But.refl g w).set 9 (.int .i64 1))
  clear T0 HP0
  go_enter Try.func58, Try.ntmps58
  go_wp2_with (first | (go_at_call 76; refine (add64 ⟨g, 9, none⟩ 0 1 1 (by decide +kernel) _ c9 z9).mono ?_; rintro e w1 ⟨rfl, rfl⟩))
  clear c9 z9
  go_loopw [7] (fun i wr => ∃ k : Nat, k ≤ 65 ∧ i = .int .i64 k ∧ TB g r 0 mu 1 (upK p k) (upK q k) (mK p q k) wr ∧ But g w wr) (fun i _ => 65 - (intOf i).toNat)
  case atStart => exact ⟨0, by omega, rfl, by rw [upK_zero, upK_zero]; exact T1.out, K1.out⟩
  case round =>
    obtain ⟨k, hk, rfl, hT, hK⟩ := hrel
    have TR := Aside0.mk hT
    have KR := Aside0.mk hK
    clear hT hK
    by_cases hlt : k < 65
    · obtain ⟨hu, hv⟩ := HP.out k hlt
      have HU := Aside0.mk hu
      have HV := Aside0.mk hv
      clear hu hv
      have hi0 : (0 : Int) ≤ (k : Int) := Int.natCast_nonneg _
      have hi1 : (k : Int) < 65 := by omega
      have G0 : SG w g r 0 mu 1 (upK p k) (upK q k) (mK p q k) wr := ⟨TR.out, KR.out⟩
      have cu0 := (SG.drew G0).1.slot (i := 10 + k) (by omega)
      have G0' : Aside0 (SG w g r 0 mu 1 (upK p k) (upK q k) (mK p q k) wr.drew ∨ SG w g r 0 mu 1 (upK p (k + 1)) (upK q k) (mK p q k) wr.drew) := Aside0.mk (.inl (SG.drew G0))
      have zu0 := TR.out.frozen (10 + k)
      obtain ⟨r0, r1, r2, r3, r4, r5⟩ := TR.out.six
      clear TR KR
      go_wp2_with fail
      go_region_held3 (fun w' => (w'.cell? ⟨g, 0, none⟩ = some (.int .i64 r.f0) ∧ w'.cell? ⟨g, 1, none⟩ = some (.int .i64 r.f1) ∧ w'.cell? ⟨g, 2, none⟩ = some (.int .i64 r.f2) ∧ w'.cell? ⟨g, 3, none⟩ = some (.int .i64 r.f3) ∧ w'.cell? ⟨g, 4, none⟩ = some (.int .i64 r.f4) ∧ w'.cell? ⟨g, 5, none⟩ = some (.int .i64 r.f5)) ∧ w'.cell? ⟨g, 10 + k, none⟩ = some (slotV g (10 + k) w') ∧ w'.frozen? ⟨g, 10 + k, none⟩ = false ∧ Aside0 (SG w g r 0 mu 1 (upK p k) (upK q k) (mK p q k) w' ∨ SG w g r 0 mu 1 (upK p (k + 1)) (upK q k) (mK p q k) w'))
        (first | exact ⟨⟨r0, r1, r2, r3, r4, r5⟩, cu0, zu0, G0'⟩ | exact ⟨G2.1.six, G2.1.slot (by omega), G2.1.frozen (10 + k), Aside0.mk (.inl G2)⟩ | (have G3 := SG.put G2 (set_up hlt (p k)); rw [upK_succ] at G3; exact ⟨G3.1.six, G3.1.slot (by omega), G3.1.frozen (10 + k), Aside0.mk (.inr G3)⟩) | go_keep)
        (first | (go_at_call 77; refine (rates_Rates_peak.calls 20 _ _ _ _ _ _ _ _ _ _ HU.out).mono ?_; rintro e w2 ⟨rfl, hb⟩; have G2 : SG w g r 0 mu 1 (upK p k) (upK q k) (mK p q k) w2 := SG.below (SG.drew G0) hb))
      have G3 := SG.put G2 (set_up hlt (p k))
      rw [upK_succ] at G3
      clear G0 G0' cu0 zu0 r0 r1 r2 r3 r4 r5 HU
      generalize (w2.setCell ⟨g, 10 + k, none⟩ (.int .i64 (p k))) = W at G3 ⊢
      clear G2 hb
      have G3' : Aside0 (SG w g r 0 mu 1 (upK p (k + 1)) (upK q k) (mK p q k) W.drew ∨ SG w g r 0 mu 1 (upK p (k + 1)) (upK q (k + 1)) (mK p q k) W.drew) := Aside0.mk (.inl (SG.drew G3))
      have cu0 := (SG.drew G3).1.slot (i := 75 + k) (by omega)
      have zu0 := G3.1.frozen (75 + k)
      obtain ⟨r0, r1, r2, r3, r4, r5⟩ := G3.1.six
      go_wp2_with fail
      go_region_held3 (fun w' => (w'.cell? ⟨g, 0, none⟩ = some (.int .i64 r.f0) ∧ w'.cell? ⟨g, 1, none⟩ = some (.int .i64 r.f1) ∧ w'.cell? ⟨g, 2, none⟩ = some (.int .i64 r.f2) ∧ w'.cell? ⟨g, 3, none⟩ = some (.int .i64 r.f3) ∧ w'.cell? ⟨g, 4, none⟩ = some (.int .i64 r.f4) ∧ w'.cell? ⟨g, 5, none⟩ = some (.int .i64 r.f5)) ∧ w'.cell? ⟨g, 75 + k, none⟩ = some (slotV g (75 + k) w') ∧ w'.frozen? ⟨g, 75 + k, none⟩ = false ∧ Aside0 (SG w g r 0 mu 1 (upK p (k + 1)) (upK q k) (mK p q k) w' ∨ SG w g r 0 mu 1 (upK p (k + 1)) (upK q (k + 1)) (mK p q k) w'))
        (first | exact ⟨⟨r0, r1, r2, r3, r4, r5⟩, cu0, zu0, G3'⟩ | exact ⟨G4.1.six, G4.1.slot (by omega), G4.1.frozen (75 + k), Aside0.mk (.inl G4)⟩ | (have G5 := SG.put G4 (set_down hlt (q k)); rw [upK_succ] at G5; exact ⟨G5.1.six, G5.1.slot (by omega), G5.1.frozen (75 + k), Aside0.mk (.inr G5)⟩) | go_keep)
        (first | (go_at_call 77; refine (rates_Rates_peak.calls 20 _ _ _ _ _ _ _ _ _ _ HV.out).mono ?_; rintro e w4 ⟨rfl, hb⟩; have G4 : SG w g r 0 mu 1 (upK p (k + 1)) (upK q k) (mK p q k) w4 := SG.below (SG.drew G3) hb))
      have G5 := SG.put G4 (set_down hlt (q k))
      rw [upK_succ] at G5
      clear G3 G3' cu0 zu0 r0 r1 r2 r3 r4 r5 HV
      generalize (w4.setCell ⟨g, 75 + k, none⟩ (.int .i64 (q k))) = W2 at G5 ⊢
      clear G4 hb
      have s0 := G5.1.most.1
      have s1 := (G5.1.cell (10 + k)).trans (tc_up hlt)
      have s2 := (G5.1.cell (75 + k)).trans (tc_down hlt)
      have s3 := G5.1.frozen 140
      rw [upK_self] at s1 s2
      go_wp2_with fail
      go_region
      go_wp2
      go_roundw
      case rel =>
        have G6 : SG w g r 0 mu 1 (upK p (k + 1)) (upK q (k + 1)) (mK p q (k + 1)) (W2.setCell ⟨g, 140, none⟩ (.int .i64 (mK p q (k + 1)))) := SG.put G5 (set_most _)
        exact ⟨k + 1, by omega, by go_num, G6.1, G6.2.drew⟩
      case measure => simp [intOf]; omega
    · have e : k = 65 := by omega
      subst e
      go_wp2
      go_end0
      exact ⟨rfl, TR.out, KR.out⟩
end Go.Proofs.Ytomaojmccchibaa.X
/- rates.Table's methods: New, Peak, Most, Laid: sync.Once lays the table at the first asking. -/
namespace Go.Proofs.Ytomaojmccchibaa.X
open Go.RowKit Go.Proofs.YtomaojmccchibaaW.PrintWords Go.Proofs.YtomaojmccchibaaW.PrintLast Go.Proofs.YtomaojmccchibaaW.PrintMore
attribute [local go_sem] max2_int min2_int max_two min_two max_three min_three max_four min_four
set_option linter.unusedVariables false
set_option linter.unusedSimpArgs false

theorem ret_int {k : IntKind} {a b : Int} (h : a = b) : Ending.returned (.int k a) = .returned (.int k b) := by rw [h]
/-- Is not laid yet. -/
def Raw (g : Nat) (r : S36) (w : World) : Prop := TB g r 0 0 0 (fun _ => 0) (fun _ => 0) 0 w
/-- Is laid. -/
def Done (g : Nat) (r : S36) (p q : Nat → Int) (w : World) : Prop := TB g r 1 0 1 (upK p 65) (upK q 65) (mK p q 65) w
set_option maxRecDepth 100000 in
set_option maxHeartbeats 4000000 in
theorem slow_any (g : Nat) (r : S36) (p q : Nat → Int) (w : World) (T0 : Raw g r w) (HP0 : PeaksOf r p q) :
    Calls Try.prog 75 #[.pointer (some ⟨g, 6, none⟩), .func (.func 58) #[.pointer (some ⟨g, 0, none⟩)] #[]] w fun e w' => e = .returned (.tuple #[]) ∧ Done g r p q w' ∧ But g w w' := by
  have HP := Aside0.mk HP0
  have c7 := (TB.cell T0 7).trans (rfl : _ = some (Value.int .i32 0))
  have z7 := TB.frozen T0 7
  have T1 := Aside0.mk (TB.put T0 (i := 7) (x := .int .i32 1) (set_lock 1))
  have K1 := Aside0.mk ((But.refl g w).set 7 (.int .i32 1))
  have c6 := (TB.cell T1.out 6).trans (rfl : _ = some (Value.int .u32 0))
  have hl := run_call_load (P := Try.prog) Try.func82 (by kernel_rfl) (by kernel_rfl) (by kernel_rfl) .u32 (by kernel_rfl) c6
  have hnot : ∀ (x : Bool) (w : World), (Op.unary .not (.bool x)).run Try.prog w = .ok (.bool (!x)) w := fun _ _ => rfl
  clear T0 HP0 c6
  go_enter_defers Try.func75, Try.ntmps75
  go_wp2_with (first | (go_at_call 83; refine (lock_free ⟨g, 7, none⟩ _ c7 z7).mono ?_; rintro e w' ⟨rfl, rfl⟩) | (go_at_call 58; refine (lay_any g r 1 p q _ T1.out HP.out).mono ?_; rintro e w2 ⟨rfl, hT, hK⟩) | (go_at_call 74; go_in))
  have T2 := Aside0.mk hT
  have K2 := Aside0.mk (K1.out.trans hK)
  have d6 := (TB.cell hT 6).trans (rfl : _ = some (Value.int .u32 0))
  have y6 := TB.frozen hT 6
  have T3 := Aside0.mk (TB.put (w := w2.drew) hT (i := 6) (x := .int .u32 1) (set_done 1))
  have K3 := Aside0.mk (But.set K2.out.drew 6 (.int .u32 1))
  have d7 := (TB.cell T3.out 7).trans (rfl : _ = some (Value.int .i32 1))
  have y7 := TB.frozen T3.out 7
  have T4 := Aside0.mk (TB.put T3.out (i := 7) (x := .int .i32 0) (set_lock 0))
  have K4 := Aside0.mk (But.set K3.out 7 (.int .i32 0))
  clear hT hK
  refine leaves_cons (f := 85) (args := #[.pointer (some ⟨g, 6, none⟩), .bool true]) (by simp) (by simp [go_sem]) ?_
  refine (store_deferred ⟨g, 6, none⟩ (.int .u32 0) .returning _ d6 y6).mono ?_
  rintro e u' w'' ⟨rfl, rfl, rfl⟩
  refine leaves_cons (f := 84) (args := #[.pointer (some ⟨g, 7, none⟩)]) (by simp [settle]) (by simp [go_sem]) ?_
  refine (unlock_deferred ⟨g, 7, none⟩ _ _ d7 y7).mono ?_
  rintro e u' w'' ⟨rfl, rfl, rfl⟩
  have fin : Done g r p q ((w2.drew.setCell ⟨g, 6, none⟩ (.int .u32 1)).setCell ⟨g, 7, none⟩ (.int .i32 0)) ∧ But g w ((w2.drew.setCell ⟨g, 6, none⟩ (.int .u32 1)).setCell ⟨g, 7, none⟩ (.int .i32 0)) := ⟨T4.out, K4.out⟩
  simp [Leaves, settle, results, Try.results75, fin]
theorem do_first (g : Nat) (r : S36) (p q : Nat → Int) (w : World) (T0 : Raw g r w) (HP0 : PeaksOf r p q) :
    Calls Try.prog 57 #[.pointer (some ⟨g, 6, none⟩), .func (.func 58) #[.pointer (some ⟨g, 0, none⟩)] #[]] w fun e w' => e = .returned (.tuple #[]) ∧ Done g r p q w' ∧ But g w w' := by
  have HP := Aside0.mk HP0
  have T := Aside0.mk T0
  have c6 := (TB.cell T0 6).trans (rfl : _ = some (Value.int .u32 0))
  have hl := run_call_load (P := Try.prog) Try.func82 (by kernel_rfl) (by kernel_rfl) (by kernel_rfl) .u32 (by kernel_rfl) c6
  have hnot : ∀ (x : Bool) (w : World), (Op.unary .not (.bool x)).run Try.prog w = .ok (.bool (!x)) w := fun _ _ => rfl
  clear T0 HP0 c6
  go_enter Try.func57, Try.ntmps57
  go_wp2_with (first | (go_at_call 75; refine (slow_any g r p q _ T.out HP.out).mono ?_; rintro e w2 ⟨rfl, hT, hK⟩; have F := Aside0.mk (And.intro hT hK); clear hT hK) | (go_at_call 74; go_in))
  go_end0
  exact ⟨rfl, F.out⟩
theorem do_done (g : Nat) (r : S36) (p q : Nat → Int) (fv : Value) (w : World) (T0 : Done g r p q w) :
    Calls Try.prog 57 #[.pointer (some ⟨g, 6, none⟩), fv] w fun e w' => e = .returned (.tuple #[]) ∧ w' = w := by
  have c6 := (TB.cell T0 6).trans (rfl : _ = some (Value.int .u32 1))
  have hl := run_call_load (P := Try.prog) Try.func82 (by kernel_rfl) (by kernel_rfl) (by kernel_rfl) .u32 (by kernel_rfl) c6
  have hnot : ∀ (x : Bool) (w : World), (Op.unary .not (.bool x)).run Try.prog w = .ok (.bool (!x)) w := fun _ _ => rfl
  clear T0 c6
  go_enter Try.func57, Try.ntmps57
  go_wp2
  go_end0
  exact ⟨rfl, rfl⟩
/-- A table, laid or not. -/
def Tbl (g : Nat) (r : S36) (p q : Nat → Int) (w : World) : Prop := Raw g r w ∨ Done g r p q w
theorem do_any (g : Nat) (r : S36) (p q : Nat → Int) (w : World) (T0 : Tbl g r p q w) (HP0 : PeaksOf r p q) :
    Calls Try.prog 57 #[.pointer (some ⟨g, 6, none⟩), .func (.func 58) #[.pointer (some ⟨g, 0, none⟩)] #[]] w fun e w' => e = .returned (.tuple #[]) ∧ Done g r p q w' ∧ But g w w' := by
  rcases T0 with h | h
  · exact do_first g r p q w h HP0
  · refine (do_done g r p q _ w h).mono ?_
    rintro e w' ⟨rfl, rfl⟩
    exact ⟨rfl, h, But.refl _ _⟩
/-- A load, as it counts. -/
def clampN (load : Int) : Nat := (mn (mx load 0) 64).toNat
/-- What a table tells. -/
def peakV (r : S36) (p q : Nat → Int) (load dir : Int) : Int := if dir > 0 then p (clampN load) else if dir < 0 then q (clampN load) else r.f4
theorem clamp_spec (load : Int) : ∃ k : Nat, k < 65 ∧ (if 64 < (if load < 0 then 0 else load) then 64 else (if load < 0 then 0 else load)) = (k : Int) ∧ clampN load = k := by
  unfold clampN mn mx
  refine ⟨_, ?_, ?_, rfl⟩ <;> (repeat' split) <;> omega
set_option maxRecDepth 100000 in
set_option maxHeartbeats 4000000 in
theorem peak_any (g : Nat) (r : S36) (p q : Nat → Int) (load dir : Int) (w : World) (T0 : Tbl g r p q w) (HP0 : PeaksOf r p q) :
    Calls Try.prog 35 #[.pointer (some ⟨g, 0, none⟩), .int .i64 load, .int .i64 dir] w fun e w' => e = .returned (.int .i64 (peakV r p q load dir)) ∧ Done g r p q w' ∧ But g w w' := by
  have HP := Aside0.mk HP0
  have T := Aside0.mk T0
  obtain ⟨k, hk, hc, hcl⟩ := clamp_spec load
  have HC := Aside0.mk hc
  have HCL := Aside0.mk hcl
  have hmf : ∀ (fn : Fn) (first cap : Array Value) (w : World), (Instr.makeFunc fn first cap).run Try.prog w = .ok (.func fn first cap) w := fun _ _ _ _ => rfl
  clear HP0 T0 hc hcl
  rcases (show dir > 0 ∨ dir < 0 ∨ dir = 0 by omega) with hd | hd | hd
  · have HV := Aside0.mk (show upK p 65 k = peakV r p q load dir by unfold peakV upK; rw [if_pos hd, HCL.out, if_pos hk])
    go_enter Try.func35, Try.ntmps35
    go_wp2_with (first | (go_at_call 57; refine (do_any g r p q _ T.out HP.out).mono ?_; rintro e w2 ⟨rfl, hT, hK⟩; have F := Aside0.mk (And.intro hT hK); have cu := (TB.cell hT (10 + k)).trans (tc_up hk); have cd := (TB.cell hT (75 + k)).trans (tc_down hk); have cr := (TB.cell hT 4).trans (rfl : _ = some (Value.int .i64 r.f4)); clear hT hK) | (simp only [HC.out]))
    all_goals (go_ret; exact ⟨ret_int HV.out, F.out⟩)
  · have HV := Aside0.mk (show upK q 65 k = peakV r p q load dir by unfold peakV; rw [if_neg (show ¬ dir > 0 by omega), if_pos hd, HCL.out]; unfold upK; rw [if_pos hk])
    have hd2 : ¬ dir > 0 := by omega
    go_enter Try.func35, Try.ntmps35
    go_wp2_with (first | (go_at_call 57; refine (do_any g r p q _ T.out HP.out).mono ?_; rintro e w2 ⟨rfl, hT, hK⟩; have F := Aside0.mk (And.intro hT hK); have cu := (TB.cell hT (10 + k)).trans (tc_up hk); have cd := (TB.cell hT (75 + k)).trans (tc_down hk); have cr := (TB.cell hT 4).trans (rfl : _ = some (Value.int .i64 r.f4)); clear hT hK) | (simp only [HC.out]))
    all_goals (go_ret; exact ⟨ret_int HV.out, F.out⟩)
  · have HV := Aside0.mk (show r.f4 = peakV r p q load dir by unfold peakV; rw [if_neg (by omega), if_neg (by omega)])
    subst hd
    go_enter Try.func35, Try.ntmps35
    go_wp2_with (first | (go_at_call 57; refine (do_any g r p q _ T.out HP.out).mono ?_; rintro e w2 ⟨rfl, hT, hK⟩; have F := Aside0.mk (And.intro hT hK); have cu := (TB.cell hT (10 + k)).trans (tc_up hk); have cd := (TB.cell hT (75 + k)).trans (tc_down hk); have cr := (TB.cell hT 4).trans (rfl : _ = some (Value.int .i64 r.f4)); clear hT hK) | (simp only [HC.out]))
    all_goals (go_ret; exact ⟨ret_int HV.out, F.out⟩)
theorem peak_nil (load dir : Int) (w : World) : Calls Try.prog 35 #[.pointer none, .int .i64 load, .int .i64 dir] w fun e w' => e = .returned (.int .i64 0) ∧ w' = w := by
  go_enter Try.func35, Try.ntmps35
  go_wp2_with fail
  go_ret
  exact ⟨rfl, rfl⟩
set_option maxRecDepth 100000 in
set_option maxHeartbeats 4000000 in
theorem most_any (g : Nat) (r : S36) (p q : Nat → Int) (w : World) (T0 : Tbl g r p q w) (HP0 : PeaksOf r p q) :
    Calls Try.prog 36 #[.pointer (some ⟨g, 0, none⟩)] w fun e w' => e = .returned (.int .i64 (mK p q 65)) ∧ Done g r p q w' ∧ But g w w' := by
  have HP := Aside0.mk HP0
  have T := Aside0.mk T0
  have hmf : ∀ (fn : Fn) (first cap : Array Value) (w : World), (Instr.makeFunc fn first cap).run Try.prog w = .ok (.func fn first cap) w := fun _ _ _ _ => rfl
  clear HP0 T0
  go_enter Try.func36, Try.ntmps36
  go_wp2_with (first | (go_at_call 57; refine (do_any g r p q _ T.out HP.out).mono ?_; rintro e w2 ⟨rfl, hT, hK⟩; have F := Aside0.mk (And.intro hT hK); have cu := (TB.cell hT 140).trans tc_most; clear hT hK))
  go_ret
  exact ⟨rfl, F.out⟩
theorem most_nil (w : World) : Calls Try.prog 36 #[.pointer none] w fun e w' => e = .returned (.int .i64 0) ∧ w' = w := by
  go_enter Try.func36, Try.ntmps36
  go_wp2_with fail
  go_ret
  exact ⟨rfl, rfl⟩
theorem laid_raw (g : Nat) (r : S36) (w : World) (T0 : Raw g r w) : Calls Try.prog 37 #[.pointer (some ⟨g, 0, none⟩)] w fun e w' => e = .returned (.int .i64 0) ∧ w' = w := by
  have c9 := (TB.cell T0 9).trans (rfl : _ = some (Value.int .i64 0))
  go_enter Try.func37, Try.ntmps37
  go_wp2_with (first | (go_at_call 59; refine (load64 ⟨g, 9, none⟩ 0 _ c9).mono ?_; rintro e w2 ⟨rfl, rfl⟩))
  go_ret
  exact ⟨rfl, rfl⟩
theorem laid_done (g : Nat) (r : S36) (p q : Nat → Int) (w : World) (T0 : Done g r p q w) : Calls Try.prog 37 #[.pointer (some ⟨g, 0, none⟩)] w fun e w' => e = .returned (.int .i64 1) ∧ w' = w := by
  have c9 := (TB.cell T0 9).trans (rfl : _ = some (Value.int .i64 1))
  go_enter Try.func37, Try.ntmps37
  go_wp2_with (first | (go_at_call 59; refine (load64 ⟨g, 9, none⟩ 1 _ c9).mono ?_; rintro e w2 ⟨rfl, rfl⟩))
  go_ret
  exact ⟨rfl, rfl⟩
theorem laid_nil (w : World) : Calls Try.prog 37 #[.pointer none] w fun e w' => e = .returned (.int .i64 0) ∧ w' = w := by
  go_enter Try.func37, Try.ntmps37
  go_wp2_with fail
  go_ret
  exact ⟨rfl, rfl⟩
set_option maxRecDepth 100000 in
set_option maxHeartbeats 4000000 in
theorem new_yes (r : S36) (w : World) (h : rates_Check.f r.f0 r.f1 r.f2 r.f3 r.f4 r.f5 = some true) :
    Calls Try.prog 34 #[.agg #[.int .i64 r.f0, .int .i64 r.f1, .int .i64 r.f2, .int .i64 r.f3, .int .i64 r.f4, .int .i64 r.f5]] w fun e w' => ∃ g, e = .returned (.pointer (some ⟨g, 0, none⟩)) ∧ w.heap.size ≤ g ∧ Raw g r w' ∧ Below w.heap.size w w' := by
  have H := Aside0.mk h
  clear h
  go_enter Try.func34, Try.ntmps34
  go_wp2_with (first | (go_at_call 28; refine (rates_Check.calls _ _ _ _ _ _ _ _ H.out).mono ?_; rintro e w2 ⟨rfl, hb⟩; have KB := blk_below (blk_new w _) hb; have b0 := (blk_cell KB 0).trans (rfl : _ = some (Value.int .i64 r.f0)); have b1 := (blk_cell KB 1).trans (rfl : _ = some (Value.int .i64 r.f1)); have b2 := (blk_cell KB 2).trans (rfl : _ = some (Value.int .i64 r.f2)); have b3 := (blk_cell KB 3).trans (rfl : _ = some (Value.int .i64 r.f3)); have b4 := (blk_cell KB 4).trans (rfl : _ = some (Value.int .i64 r.f4)); have b5 := (blk_cell KB 5).trans (rfl : _ = some (Value.int .i64 r.f5)); have HB := Aside0.mk (below_step (below_alloc (Below.refl w.heap.size w) _) hb); clear KB hb))
  go_ret
  have hs := HB.out.size
  refine ⟨w2.heap.size, rfl, hs, ?_, below_alloc HB.out _⟩
  unfold Raw TB
  refine (blk_new w2 _).trans ?_
  congr 1
theorem new_no (r : S36) (w : World) (h : rates_Check.f r.f0 r.f1 r.f2 r.f3 r.f4 r.f5 = some false) :
    Calls Try.prog 34 #[.agg #[.int .i64 r.f0, .int .i64 r.f1, .int .i64 r.f2, .int .i64 r.f3, .int .i64 r.f4, .int .i64 r.f5]] w fun e w' => e = .returned (.pointer none) ∧ Below w.heap.size w w' := by
  have H := Aside0.mk h
  clear h
  go_enter Try.func34, Try.ntmps34
  go_wp2_with (first | (go_at_call 28; refine (rates_Check.calls _ _ _ _ _ _ _ _ H.out).mono ?_; rintro e w2 ⟨rfl, hb⟩; have HB := Aside0.mk (below_step (below_alloc (Below.refl w.heap.size w) _) hb); clear hb))
  go_ret
  exact ⟨rfl, HB.out⟩
end Go.Proofs.Ytomaojmccchibaa.X
