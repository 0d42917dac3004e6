/- A meter in memory: its block, and its methods. -/
import Derived.Test.YtnhiokgkhbiflaaXx8
import Derived.Tactics2
import Derived.Laws.Pointers
import Derived.Laws.LoneSync
import Derived.Deep.RegionHeld3
import Derived.Deep.LoopGhost
import Derived.Outline
namespace Go.Proofs.Ytnhiokgkhbiflaa.X
open Go.RowKit Go.Proofs.YtnhiokgkhbiflaaW.PrintWords Go.Proofs.YtnhiokgkhbiflaaW.PrintLast Go.Proofs.YtnhiokgkhbiflaaW.PrintMore
theorem max2_mx (k k' : IntKind) (x y : Int) : Builtin.max2 (.int k x) (.int k' y) = pure (.int k (mx x y)) := by unfold mx; exact max2_int k k' x y
theorem min2_mn (k k' : IntKind) (x y : Int) : Builtin.min2 (.int k x) (.int k' y) = pure (.int k (mn x y)) := by unfold mn; exact min2_int k k' x y
attribute [local go_sem] max2_mx min2_mn max_two min_two
set_option linter.unusedVariables false
set_option linter.unusedSimpArgs false

/-- A meter's block: the last, the most, how many ticks. -/
def MB (g : Nat) (a h t : Int) (w : World) : Prop := w.heap[g]? = some (.cells #[.int .i64 a, .int .i64 h, .int .i64 t] 71 (0, 0))
/-- All but block g is as it was. -/
structure But (g : Nat) (w w' : World) : Prop where
  same : Below 0 w w'
  keep : Kept w w' (fun k => k = g)
section
variable {g : Nat} {a h t : Int} {w w' : World}
theorem MB.below (m : MB g a h t w) (hb : Below w.heap.size w w') : MB g a h t w' := blk_below m hb
theorem MB.lt (m : MB g a h t w) : g < w.heap.size := blk_lt m
theorem MB.but {g' : Nat} (m : MB g a h t w) (k : But g' w w') (hne : g ≠ g') : MB g a h t w' := blk_kept m k.keep hne
theorem MB.c0 (m : MB g a h t w) : w.cell? ⟨g, 0, none⟩ = some (.int .i64 a) := (blk_cell m 0).trans rfl
theorem MB.c1 (m : MB g a h t w) : w.cell? ⟨g, 1, none⟩ = some (.int .i64 h) := (blk_cell m 1).trans rfl
theorem MB.c2 (m : MB g a h t w) : w.cell? ⟨g, 2, none⟩ = some (.int .i64 t) := (blk_cell m 2).trans rfl
theorem MB.fr (m : MB g a h t w) (i : Nat) : w.frozen? ⟨g, i, none⟩ = false := blk_frozen m i
theorem MB.s0 (m : MB g a h t w) (x : Int) : MB g x h t (w.setCell ⟨g, 0, none⟩ (.int .i64 x)) := blk_put m 0 _ rfl
theorem MB.s1 (m : MB g a h t w) (x : Int) : MB g a x t (w.setCell ⟨g, 1, none⟩ (.int .i64 x)) := blk_put m 1 _ rfl
theorem MB.s2 (m : MB g a h t w) (x : Int) : MB g a h x (w.setCell ⟨g, 2, none⟩ (.int .i64 x)) := blk_put m 2 _ rfl
theorem But.refl (g : Nat) (w : World) : But g w w := ⟨Below.refl _ _, Kept.refl _ _⟩
theorem But.trans {a b c : World} (h : But g a b) (k : But g b c) : But g a c := ⟨h.same.trans k.same, h.keep.then_ k.keep (fun _ hk => .inl hk)⟩
theorem But.below {a b c : World} (h : But g a b) (hb : Below b.heap.size b c) : But g a c := ⟨h.same.trans (hb.mono (Nat.zero_le _)), h.keep.below hb⟩
theorem But.of_below {a b : World} (hb : Below a.heap.size a b) : But g a b := (But.refl g a).below hb
theorem But.set {a b : World} (h : But g a b) (i : Nat) (x : Value) : But g a (b.setCell ⟨g, i, none⟩ x) := ⟨h.same.setCell (Nat.zero_le _) x, h.keep.setCell (.inl rfl) x⟩
theorem But.drew {a b : World} (h : But g a b) : But g a b.drew := ⟨h.same.drew, h.keep⟩
/-- Where g is new since. -/
theorem But.to {B : Nat} {w a b : World} (h : But g a b) (hb : Below B w a) (hB : B ≤ a.heap.size) (hg : B ≤ g) : Below B w b :=
  ⟨h.same.os.trans hb.os, h.same.tape.trans hb.tape, h.same.output.trans hb.output, Nat.le_trans hb.size h.same.size, fun i hi => (h.keep.2 i (by omega) (by omega)).trans (hb.block i hi)⟩
end
theorem store64 (a : Addr) (x : Value) (y : Int) (w : World) (hc : w.cell? a = some x) (hz : w.frozen? a = false) :
    Calls Try.prog 43 #[.pointer (some a), .int .i64 y] w fun e w' => e = .returned (.tuple #[]) ∧ w' = w.setCell a (.int .i64 y) := by
  have hst := run_call_store (P := Try.prog) Try.func47 (by kernel_rfl) (by kernel_rfl) (by kernel_rfl) (by kernel_rfl) (k := .i64) (y := y) hc hz
  go_enter Try.func43, Try.ntmps43
  go_wp2
  go_end0
  exact ⟨rfl, rfl⟩
theorem add64 (a : Addr) (x y s : Int) (hs : wrap64 (x + y) = s) (w : World) (hc : w.cell? a = some (.int .i64 x)) (hz : w.frozen? a = false) :
    Calls Try.prog 45 #[.pointer (some a), .int .i64 y] w fun e w' => e = .returned (.int .i64 s) ∧ w' = w.setCell a (.int .i64 s) := by
  subst hs
  have hadd := run_call_add (P := Try.prog) Try.func49 (by kernel_rfl) (by kernel_rfl) (by kernel_rfl) .i64 (by kernel_rfl) (y := y) (s := wrap64 (x + y)) hc hz (by simp [go_sem, wrap64, IntKind.wrap_i64])
  go_enter Try.func45, Try.ntmps45
  go_wp2
  go_ret
  exact ⟨rfl, rfl⟩
theorem load64 (a : Addr) (x : Int) (w : World) (hc : w.cell? a = some (.int .i64 x)) :
    Calls Try.prog 44 #[.pointer (some a)] w fun e w' => e = .returned (.int .i64 x) ∧ w' = w := by
  have hl := run_call_load (P := Try.prog) Try.func48 (by kernel_rfl) (by kernel_rfl) (by kernel_rfl) .i64 (by kernel_rfl) hc
  go_enter Try.func44, Try.ntmps44
  go_wp2
  go_ret
  exact ⟨rfl, rfl⟩
theorem new_any (w : World) : Calls Try.prog 29 #[] w fun e w' => e = .returned (.pointer (some ⟨w.heap.size, 0, none⟩)) ∧ MB w.heap.size 0 0 0 w' ∧ Below w.heap.size w w' := by
  go_enter Try.func29, Try.ntmps29
  go_wp2_with fail
  go_ret
  refine ⟨rfl, ?_, below_alloc (Below.refl _ _) _⟩
  unfold MB
  exact (blk_new w _).trans rfl
theorem last_any (g : Nat) (a h t : Int) (w : World) (m : MB g a h t w) : Calls Try.prog 32 #[.pointer (some ⟨g, 0, none⟩)] w fun e w' => e = .returned (.int .i64 a) ∧ w' = w := by
  have c := m.c0
  clear m
  go_enter Try.func32, Try.ntmps32
  go_wp2_with (first | (go_at_call 44; refine (load64 ⟨g, 0, none⟩ a _ c).mono ?_; rintro e w2 ⟨rfl, rfl⟩))
  go_ret
  exact ⟨rfl, rfl⟩
theorem high_any (g : Nat) (a h t : Int) (w : World) (m : MB g a h t w) : Calls Try.prog 33 #[.pointer (some ⟨g, 0, none⟩)] w fun e w' => e = .returned (.int .i64 h) ∧ w' = w := by
  have c := m.c1
  clear m
  go_enter Try.func33, Try.ntmps33
  go_wp2_with (first | (go_at_call 44; refine (load64 ⟨g, 1, none⟩ h _ c).mono ?_; rintro e w2 ⟨rfl, rfl⟩))
  go_ret
  exact ⟨rfl, rfl⟩
theorem ticks_any (g : Nat) (a h t : Int) (w : World) (m : MB g a h t w) : Calls Try.prog 34 #[.pointer (some ⟨g, 0, none⟩)] w fun e w' => e = .returned (.int .i64 t) ∧ w' = w := by
  have c := m.c2
  clear m
  go_enter Try.func34, Try.ntmps34
  go_wp2_with (first | (go_at_call 44; refine (load64 ⟨g, 2, none⟩ t _ c).mono ?_; rintro e w2 ⟨rfl, rfl⟩))
  go_ret
  exact ⟨rfl, rfl⟩
theorem last_nil (w : World) : Calls Try.prog 32 #[.pointer none] w fun e w' => e = .returned (.int .i64 0) ∧ w' = w := by
  go_enter Try.func32, Try.ntmps32
  go_wp2_with fail
  go_ret
  exact ⟨rfl, rfl⟩
theorem high_nil (w : World) : Calls Try.prog 33 #[.pointer none] w fun e w' => e = .returned (.int .i64 0) ∧ w' = w := by
  go_enter Try.func33, Try.ntmps33
  go_wp2_with fail
  go_ret
  exact ⟨rfl, rfl⟩
theorem ticks_nil (w : World) : Calls Try.prog 34 #[.pointer none] w fun e w' => e = .returned (.int .i64 0) ∧ w' = w := by
  go_enter Try.func34, Try.ntmps34
  go_wp2_with fail
  go_ret
  exact ⟨rfl, rfl⟩
theorem tick_nil (v : Value) (w : World) : Calls Try.prog 31 #[.pointer none, v] w fun e w' => e = .returned (.int .i64 0) ∧ w' = w := by
  go_enter Try.func31, Try.ntmps31
  go_wp2_with fail
  go_ret
  exact ⟨rfl, rfl⟩
/-- What counts of draws: none below 0. -/
def pos (l : List Int) : List Int := l.map fun x => mx x 0
theorem pos_succ {l : List Int} {k : Nat} (h : k < l.length) : pos (l.take (k + 1)) = pos (l.take k) ++ [mx (rd l (k : Int)) 0] := by
  unfold pos rd
  rw [List.take_succ_eq_append_getElem h, List.map_append, Int.toNat_natCast, List.getD_eq_getElem?_getD, List.getElem?_eq_getElem h]; rfl
set_option maxRecDepth 100000 in
set_option maxHeartbeats 4000000 in
theorem tick_any (k : Nat) (g : Nat) (a h t n t' : Int) (s : Bool) (A : Option Addr) (c : Nat) (zs : List Int) (w : World) (m : MB g a h t w) (hr : Kd.C (Kd.int .i64) w A zs.length zs) (hlen : zs.length ≤ 1000000) (hs : sat_Sum.f k (pos zs) = some (n, s)) (ht : wrap64 (t + 1) = t') :
    Calls Try.prog 31 #[.pointer (some ⟨g, 0, none⟩), .slice A zs.length c] w fun e w' => e = .returned (.int .i64 n) ∧ MB g n (mx h n) t' w' ∧ But g w w' := by
  have HR := Aside0.mk hr
  have M0 := Aside0.mk m
  have HS := Aside0.mk hs
  have HT := Aside0.mk ht
  have HB := Aside0.mk (Below.refl w.heap.size w)
  clear hr m hs ht
  go_enter Try.func31, Try.ntmps31
  go_wp2
  go_loopw [5, 14] (fun v i wr => ∃ k : Nat, k ≤ zs.length ∧ i = .int .i64 k ∧ Aside0 (Kd.R (Kd.int .i64) 2 wr w.heap.size (fun _ => True) v (pos (zs.take k))) ∧ Aside0 (Below w.heap.size w wr)) (fun _ i _ => zs.length - (intOf i).toNat)
  case atStart => exact ⟨0, Nat.zero_le _, rfl, ⟨Kd.R_nil _ _ _ _ _⟩, HB⟩
  case round =>
    clear HB
    obtain ⟨k1, hk, rfl, HO, HB⟩ := hrel
    by_cases hlt : k1 < zs.length
    · have p1 : 0 ≤ (k1 : Int) := Int.natCast_nonneg _
      have q1 : (k1 : Int) < (zs.length : Int) := by omega
      obtain ⟨ad, e1, hx⟩ := Kd.at_int HR.out (k1 : Int) p1 q1
      cases e1
      replace hx := (HB.out.cell (World.block_lt_of_cell? w _ hx)).trans hx
      obtain ⟨y, hy⟩ : ∃ y, rd zs (k1 : Int) = y := ⟨_, rfl⟩
      rw [hy, Int.toNat_natCast] at hx
      obtain ⟨xs, hxs⟩ : ∃ xs, pos (zs.take k1) = xs := ⟨_, rfl⟩
      have hps := pos_succ hlt
      rw [hxs, hy] at hps
      have hlx : xs.length = k1 := by rw [← hxs]; simp [pos]; omega
      rw [hxs] at HO
      have HPS := Aside0.mk hps
      have HLX := Aside0.mk hlx
      clear hps hlx hy hxs
      go_wp2_with (first | ((with_reducible refine gate_builtin (b := .append) (xs := #[.tmp 18, .tmp 21]) rfl ?_); at_builtin; refine Kd.R_append (Kd.int .i64) (w0 := w) w.heap.size rfl (.tmp 18) (.tmp 21) 43 2 (.int .i64 0) 8 rfl Try.underlying43 info2 rfl (by decide) (by omega) u5 xs (mx y 0) [.int .i64 (mx y 0)] (fun _ => True) (fun _ => False) rfl rfl ?aP (fun _ hk => hk.elim) ?aF ?aO ?aB ?aS ?aL ?_; (case aP => exact rfl); (case aB => exact (by repeat (first | (with_reducible first | exact HB.out | apply below_alloc | apply pw_below_drewN | apply below_drew1) | exact HB.out))); (case aF => exact (fun _ _ => trivial)); (case aO => exact (by (with_reducible repeat (first | apply Kd.R_alloc | apply Kd.R_drewN | apply Kd.R_drew)); exact HO.out)); (case aS => exact (below_size (by repeat (first | (with_reducible first | exact HB.out | apply below_alloc | apply pw_below_drewN | apply below_drew1) | exact HB.out)))); (case aL => have := HLX.out; omega); intro v158 w6 ho hb hg hat; rw [← HPS.out] at ho; have n0_ := Aside0.mk (hb); have n1_ := Aside0.mk (ho); clear HB; clear HO; have HB := n0_; have HO := n1_; clear n0_ n1_; clear ho hb hg hat))
      go_roundw
      case rel => exact ⟨k1 + 1, by omega, by go_num, HO, HB⟩
      case measure => simp [intOf]; omega
    · have e1 : pos (zs.take k1) = pos zs := by rw [List.take_of_length_le (by omega)]
      rw [e1] at HO
      have hkd : ¬ (k1 : Int) < (zs.length : Int) := by omega
      obtain ⟨Ao, co, eo⟩ := Kd.R_slice HO.out
      subst eo
      clear e1
      go_wp2_with fail
      (with_reducible refine (sat_Sum.calls k _ _ (pos zs) n s _ ?side1 ?side2 HS.out).mono ?_)
      case side1 => exact (Kd.R_reads' HO.out).2.2
      case side2 => exact (Kd.R_reads' HO.out).2.1
      rintro e w2 ⟨rfl, nd, rfl⟩
      have M1 := Aside0.mk (show MB g a h t (wr.drewN nd) from M0.out.below (pw_below_drewN HB.out nd))
      have K1 := Aside0.mk (show But g w (wr.drewN nd) from But.of_below (pw_below_drewN HB.out nd))
      have c0 := M1.out.c0
      have z0 := M1.out.fr 0
      go_wp2_with fail
      refine (store64 ⟨g, 0, none⟩ _ n _ c0 z0).mono ?_
      rintro e w3 ⟨rfl, rfl⟩
      have M2 := Aside0.mk (M1.out.s0 n)
      have K2 := Aside0.mk (K1.out.set 0 (.int .i64 n))
      have c1 := M2.out.c1
      clear c0 z0
      go_wp2_with fail
      refine (load64 ⟨g, 1, none⟩ h _ c1).mono ?_
      rintro e w4 ⟨rfl, rfl⟩
      clear c1
      by_cases hh : h < n
      · have z1 := M2.out.fr 1
        have c1 := M2.out.c1
        go_wp2_with fail
        refine (store64 ⟨g, 1, none⟩ _ n _ c1 z1).mono ?_
        rintro e w5 ⟨rfl, rfl⟩
        have M3 := Aside0.mk (M2.out.s1 n)
        have K3 := Aside0.mk (K2.out.set 1 (.int .i64 n))
        have c2 := M3.out.c2
        have z2 := M3.out.fr 2
        clear c1 z1
        go_wp2_with fail
        refine (add64 ⟨g, 2, none⟩ t 1 t' HT.out _ c2 z2).mono ?_
        rintro e w6 ⟨rfl, rfl⟩
        have M4 := Aside0.mk (M3.out.s2 t')
        have K4 := Aside0.mk (K3.out.set 2 (.int .i64 t'))
        clear c2 z2
        go_wp2_with fail
        go_ret
        have e : mx h n = n := by unfold mx; rw [if_pos (by omega)]
        exact ⟨rfl, by rw [e]; exact M4.out, K4.out⟩
      · have c2 := M2.out.c2
        have z2 := M2.out.fr 2
        have hd : decide (n > h) = false := decide_eq_false hh
        go_wp2_with fail
        refine (add64 ⟨g, 2, none⟩ t 1 t' HT.out _ c2 z2).mono ?_
        rintro e w6 ⟨rfl, rfl⟩
        have M4 := Aside0.mk (M2.out.s2 t')
        have K4 := Aside0.mk (K2.out.set 2 (.int .i64 t'))
        clear c2 z2
        go_wp2_with fail
        go_ret
        have e : mx h n = h := by unfold mx; rw [if_neg (by omega)]
        exact ⟨rfl, by rw [e]; exact M4.out, K4.out⟩
end Go.Proofs.Ytnhiokgkhbiflaa.X
