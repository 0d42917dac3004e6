/- rates.Table's lay: all peaks, and the most of them. -/
import Derived.Test.YtomaojmccchibaaRatesTab
import Derived.Deep.RegionHeld3
import Derived.Deep.LoopGhost
import Derived.BigRegion
namespace Go.Proofs.Ytomaojmccchibaa.X
open Go.RowKit Go.Proofs.YtomaojmccchibaaW.PrintWords Go.Proofs.YtomaojmccchibaaW.PrintLast Go.Proofs.YtomaojmccchibaaW.PrintMore
attribute [local go_sem] max2_int min2_int max_two min_two max_three min_three max_four min_four
set_option linter.unusedVariables false
set_option linter.unusedSimpArgs false

theorem add64 (a : Addr) (x y s : Int) (hs : wrap64 (x + y) = s) (w : World) (hc : w.cell? a = some (.int .i64 x)) (hz : w.frozen? a = false) :
    Calls Try.prog 76 #[.pointer (some a), .int .i64 y] w fun e w' => e = .returned (.int .i64 s) ∧ w' = w.setCell a (.int .i64 s) := by
  subst hs
  have hadd := run_call_add (P := Try.prog) Try.func86 (by kernel_rfl) (by kernel_rfl) (by kernel_rfl) .i64 (by kernel_rfl) (y := y) (s := wrap64 (x + y)) hc hz (by simp [go_sem, wrap64, IntKind.wrap_i64])
  go_enter Try.func76, Try.ntmps76
  go_wp2
  go_ret
  exact ⟨rfl, rfl⟩
theorem load64 (a : Addr) (x : Int) (w : World) (hc : w.cell? a = some (.int .i64 x)) :
    Calls Try.prog 59 #[.pointer (some a)] w fun e w' => e = .returned (.int .i64 x) ∧ w' = w := by
  have hl := run_call_load (P := Try.prog) Try.func78 (by kernel_rfl) (by kernel_rfl) (by kernel_rfl) .i64 (by kernel_rfl) hc
  go_enter Try.func59, Try.ntmps59
  go_wp2
  go_ret
  exact ⟨rfl, rfl⟩
/-- The first k of p; 0 behind them. -/
def upK (p : Nat → Int) (k : Nat) : Nat → Int := fun i => if i < k then p i else 0
theorem upK_zero (p : Nat → Int) : upK p 0 = fun _ => 0 := by funext i; simp [upK]
theorem upK_succ (p : Nat → Int) (k : Nat) : upd (upK p k) k (p k) = upK p (k + 1) := by
  funext i
  unfold upd upK
  by_cases h : i = k
  · subst h; simp
  · rw [if_neg h]
    by_cases h2 : i < k
    · rw [if_pos h2, if_pos (by omega)]
    · rw [if_neg h2, if_neg (by omega)]
/-- The most of the first k of both. -/
def mK (p q : Nat → Int) : Nat → Int
  | 0 => 0
  | k + 1 => mx (mx (mK p q k) (p k)) (q k)
/-- What a table's peaks are. -/
def PeaksOf (r : S36) (p q : Nat → Int) : Prop := ∀ i : Nat, i < 65 → rates_Rates_peak.f 20 r.f0 r.f1 r.f2 r.f3 r.f4 r.f5 (i : Int) 1 = some (p i) ∧ rates_Rates_peak.f 20 r.f0 r.f1 r.f2 r.f3 r.f4 r.f5 (i : Int) (-1) = some (q i)
/-- The table, and all else as it was. -/
def SG (w0 : World) (g : Nat) (r : S36) (d mu l : Int) (u v : Nat → Int) (m : Int) (w : World) : Prop := TB g r d mu l u v m w ∧ But g w0 w
def Six (g : Nat) (r : S36) (w : World) : Prop := w.cell? ⟨g, 0, none⟩ = some (.int .i64 r.f0) ∧ w.cell? ⟨g, 1, none⟩ = some (.int .i64 r.f1) ∧ w.cell? ⟨g, 2, none⟩ = some (.int .i64 r.f2) ∧ w.cell? ⟨g, 3, none⟩ = some (.int .i64 r.f3) ∧ w.cell? ⟨g, 4, none⟩ = some (.int .i64 r.f4) ∧ w.cell? ⟨g, 5, none⟩ = some (.int .i64 r.f5)
theorem TB.six {g : Nat} {r : S36} {d mu l m : Int} {u v : Nat → Int} {w : World} (h : TB g r d mu l u v m w) : Six g r w := ⟨(h.cell 0).trans rfl, (h.cell 1).trans rfl, (h.cell 2).trans rfl, (h.cell 3).trans rfl, (h.cell 4).trans rfl, (h.cell 5).trans rfl⟩
theorem SG.drew {w0 w : World} {g : Nat} {r : S36} {d mu l m : Int} {u v : Nat → Int} (h : SG w0 g r d mu l u v m w) : SG w0 g r d mu l u v m w.drew := ⟨h.1, h.2.drew⟩
theorem SG.below {w0 w w' : World} {g : Nat} {r : S36} {d mu l m : Int} {u v : Nat → Int} (h : SG w0 g r d mu l u v m w) (hb : Below w.heap.size w w') : SG w0 g r d mu l u v m w' := ⟨h.1.below hb, h.2.below hb⟩
theorem SG.put {w0 w : World} {g : Nat} {r r' : S36} {d mu l m d' mu' l' m' : Int} {u v u' v' : Nat → Int} (h : SG w0 g r d mu l u v m w) {i : Nat} {x : Value} (e : (tc r d mu l u v m).set i x = tc r' d' mu' l' u' v' m') : SG w0 g r' d' mu' l' u' v' m' (w.setCell ⟨g, i, none⟩ x) := ⟨h.1.put e, h.2.set i x⟩
def slotV (g i : Nat) (w : World) : Value := (w.cell? ⟨g, i, none⟩).getD undef
theorem TB.slot {g : Nat} {r : S36} {d mu l m : Int} {u v : Nat → Int} {w : World} (h : TB g r d mu l u v m w) {i : Nat} (hi : i < 141) : w.cell? ⟨g, i, none⟩ = some (slotV g i w) := by
  unfold slotV
  rw [h.cell i, List.getElem?_eq_getElem (by rw [tc_len]; exact hi)]; rfl
def intV (g i : Nat) (w : World) : Int := match w.cell? ⟨g, i, none⟩ with | some (.int _ n) => n | _ => 0
theorem TB.most {g : Nat} {r : S36} {d mu l m : Int} {u v : Nat → Int} {w : World} (h : TB g r d mu l u v m w) : w.cell? ⟨g, 140, none⟩ = some (.int .i64 m) ∧ intV g 140 w = m := by
  have hc := (h.cell 140).trans tc_most
  exact ⟨hc, by unfold intV; rw [hc]⟩
theorem lk {w0 w : World} {g k : Nat} (hk : k < 65) {r : S36} {d mu l : Int} {u v : Nat → Int} (h : ∃ m, SG w0 g r d mu l u v m w) : w.cell? ⟨g, 140, none⟩ = some (.int .i64 (intV g 140 w)) ∧ w.cell? ⟨g, 10 + k, none⟩ = some (.int .i64 (u k)) ∧ w.cell? ⟨g, 75 + k, none⟩ = some (.int .i64 (v k)) ∧ w.frozen? ⟨g, 140, none⟩ = false ∧ Aside0 (∃ m, SG w0 g r d mu l u v m w) := by
  obtain ⟨m, h⟩ := h
  exact ⟨by rw [h.1.most.2]; exact h.1.most.1, (h.1.cell (10 + k)).trans (tc_up hk), (h.1.cell (75 + k)).trans (tc_down hk), h.1.frozen 140, Aside0.mk ⟨m, h⟩⟩
theorem upK_self (p : Nat → Int) (k : Nat) : upK p (k + 1) k = p k := by simp [upK]
set_option maxRecDepth 100000 in
set_option maxHeartbeats 4000000 in
theorem lay_any (g : Nat) (r : S36) (mu : Int) (p q : Nat → Int) (w : World) (T0 : TB g r 0 mu 0 (fun _ => 0) (fun _ => 0) 0 w) (HP0 : PeaksOf r p q) :
    Calls Try.prog 58 #[.pointer (some ⟨g, 0, none⟩)] w fun e w' => e = .returned (.tuple #[]) ∧ TB g r 0 mu 1 (upK p 65) (upK q 65) (mK p q 65) w' ∧ But g w w' := by
  have HP := Aside0.mk HP0
  have c9 := (T0.cell 9).trans (rfl : _ = some (Value.int .i64 0))
  have z9 := T0.frozen 9
  have T1 := Aside0.mk (T0.put (i := 9) (x := .int .i64 1) (set_laid 1))
  have K1 := Aside0.mk ((But.refl g w).set 9 (.int .i64 1))
  clear T0 HP0
  go_enter Try.func58, Try.ntmps58
  go_wp2_with (first | (go_at_call 76; refine (add64 ⟨g, 9, none⟩ 0 1 1 (by decide +kernel) _ c9 z9).mono ?_; rintro e w1 ⟨rfl, rfl⟩))
  clear c9 z9
  go_loopw [7] (fun i wr => ∃ k : Nat, k ≤ 65 ∧ i = .int .i64 k ∧ TB g r 0 mu 1 (upK p k) (upK q k) (mK p q k) wr ∧ But g w wr) (fun i _ => 65 - (intOf i).toNat)
  case atStart => exact ⟨0, by omega, rfl, by rw [upK_zero, upK_zero]; exact T1.out, K1.out⟩
  case round =>
    obtain ⟨k, hk, rfl, hT, hK⟩ := hrel
    have TR := Aside0.mk hT
    have KR := Aside0.mk hK
    clear hT hK
    by_cases hlt : k < 65
    · obtain ⟨hu, hv⟩ := HP.out k hlt
      have HU := Aside0.mk hu
      have HV := Aside0.mk hv
      clear hu hv
      have hi0 : (0 : Int) ≤ (k : Int) := Int.natCast_nonneg _
      have hi1 : (k : Int) < 65 := by omega
      have G0 : SG w g r 0 mu 1 (upK p k) (upK q k) (mK p q k) wr := ⟨TR.out, KR.out⟩
      have cu0 := (SG.drew G0).1.slot (i := 10 + k) (by omega)
      have G0' : Aside0 (SG w g r 0 mu 1 (upK p k) (upK q k) (mK p q k) wr.drew ∨ SG w g r 0 mu 1 (upK p (k + 1)) (upK q k) (mK p q k) wr.drew) := Aside0.mk (.inl (SG.drew G0))
      have zu0 := TR.out.frozen (10 + k)
      obtain ⟨r0, r1, r2, r3, r4, r5⟩ := TR.out.six
      clear TR KR
      go_wp2_with fail
      go_region_held3 (fun w' => (w'.cell? ⟨g, 0, none⟩ = some (.int .i64 r.f0) ∧ w'.cell? ⟨g, 1, none⟩ = some (.int .i64 r.f1) ∧ w'.cell? ⟨g, 2, none⟩ = some (.int .i64 r.f2) ∧ w'.cell? ⟨g, 3, none⟩ = some (.int .i64 r.f3) ∧ w'.cell? ⟨g, 4, none⟩ = some (.int .i64 r.f4) ∧ w'.cell? ⟨g, 5, none⟩ = some (.int .i64 r.f5)) ∧ w'.cell? ⟨g, 10 + k, none⟩ = some (slotV g (10 + k) w') ∧ w'.frozen? ⟨g, 10 + k, none⟩ = false ∧ Aside0 (SG w g r 0 mu 1 (upK p k) (upK q k) (mK p q k) w' ∨ SG w g r 0 mu 1 (upK p (k + 1)) (upK q k) (mK p q k) w'))
        (first | exact ⟨⟨r0, r1, r2, r3, r4, r5⟩, cu0, zu0, G0'⟩ | exact ⟨G2.1.six, G2.1.slot (by omega), G2.1.frozen (10 + k), Aside0.mk (.inl G2)⟩ | (have G3 := SG.put G2 (set_up hlt (p k)); rw [upK_succ] at G3; exact ⟨G3.1.six, G3.1.slot (by omega), G3.1.frozen (10 + k), Aside0.mk (.inr G3)⟩) | go_keep)
        (first | (go_at_call 77; refine (rates_Rates_peak.calls 20 _ _ _ _ _ _ _ _ _ _ HU.out).mono ?_; rintro e w2 ⟨rfl, hb⟩; have G2 : SG w g r 0 mu 1 (upK p k) (upK q k) (mK p q k) w2 := SG.below (SG.drew G0) hb))
      have G3 := SG.put G2 (set_up hlt (p k))
      rw [upK_succ] at G3
      clear G0 G0' cu0 zu0 r0 r1 r2 r3 r4 r5 HU
      generalize (w2.setCell ⟨g, 10 + k, none⟩ (.int .i64 (p k))) = W at G3 ⊢
      clear G2 hb
      have G3' : Aside0 (SG w g r 0 mu 1 (upK p (k + 1)) (upK q k) (mK p q k) W.drew ∨ SG w g r 0 mu 1 (upK p (k + 1)) (upK q (k + 1)) (mK p q k) W.drew) := Aside0.mk (.inl (SG.drew G3))
      have cu0 := (SG.drew G3).1.slot (i := 75 + k) (by omega)
      have zu0 := G3.1.frozen (75 + k)
      obtain ⟨r0, r1, r2, r3, r4, r5⟩ := G3.1.six
      go_wp2_with fail
      go_region_held3 (fun w' => (w'.cell? ⟨g, 0, none⟩ = some (.int .i64 r.f0) ∧ w'.cell? ⟨g, 1, none⟩ = some (.int .i64 r.f1) ∧ w'.cell? ⟨g, 2, none⟩ = some (.int .i64 r.f2) ∧ w'.cell? ⟨g, 3, none⟩ = some (.int .i64 r.f3) ∧ w'.cell? ⟨g, 4, none⟩ = some (.int .i64 r.f4) ∧ w'.cell? ⟨g, 5, none⟩ = some (.int .i64 r.f5)) ∧ w'.cell? ⟨g, 75 + k, none⟩ = some (slotV g (75 + k) w') ∧ w'.frozen? ⟨g, 75 + k, none⟩ = false ∧ Aside0 (SG w g r 0 mu 1 (upK p (k + 1)) (upK q k) (mK p q k) w' ∨ SG w g r 0 mu 1 (upK p (k + 1)) (upK q (k + 1)) (mK p q k) w'))
        (first | exact ⟨⟨r0, r1, r2, r3, r4, r5⟩, cu0, zu0, G3'⟩ | exact ⟨G4.1.six, G4.1.slot (by omega), G4.1.frozen (75 + k), Aside0.mk (.inl G4)⟩ | (have G5 := SG.put G4 (set_down hlt (q k)); rw [upK_succ] at G5; exact ⟨G5.1.six, G5.1.slot (by omega), G5.1.frozen (75 + k), Aside0.mk (.inr G5)⟩) | go_keep)
        (first | (go_at_call 77; refine (rates_Rates_peak.calls 20 _ _ _ _ _ _ _ _ _ _ HV.out).mono ?_; rintro e w4 ⟨rfl, hb⟩; have G4 : SG w g r 0 mu 1 (upK p (k + 1)) (upK q k) (mK p q k) w4 := SG.below (SG.drew G3) hb))
      have G5 := SG.put G4 (set_down hlt (q k))
      rw [upK_succ] at G5
      clear G3 G3' cu0 zu0 r0 r1 r2 r3 r4 r5 HV
      generalize (w4.setCell ⟨g, 75 + k, none⟩ (.int .i64 (q k))) = W2 at G5 ⊢
      clear G4 hb
      have s0 := G5.1.most.1
      have s1 := (G5.1.cell (10 + k)).trans (tc_up hlt)
      have s2 := (G5.1.cell (75 + k)).trans (tc_down hlt)
      have s3 := G5.1.frozen 140
      rw [upK_self] at s1 s2
      go_wp2_with fail
      go_region
      go_wp2
      go_roundw
      case rel =>
        have G6 : SG w g r 0 mu 1 (upK p (k + 1)) (upK q (k + 1)) (mK p q (k + 1)) (W2.setCell ⟨g, 140, none⟩ (.int .i64 (mK p q (k + 1)))) := SG.put G5 (set_most _)
        exact ⟨k + 1, by omega, by go_num, G6.1, G6.2.drew⟩
      case measure => simp [intOf]; omega
    · have e : k = 65 := by omega
      subst e
      go_wp2
      go_end0
      exact ⟨rfl, TR.out, KR.out⟩
end Go.Proofs.Ytomaojmccchibaa.X
