/- phase.Name and phase.May: tables of the package, read by number. -/
import Derived.Test.YtpnofbiflaahhaaDoorLaid
import Derived.Outline
namespace Go.Proofs.YtpnofbiflaahhaaDoor.X
open Go.RowKit Go.Proofs.YtpnofbiflaahhaaDoorW.PrintWords Go.Proofs.YtpnofbiflaahhaaDoorW.PrintLast Go.Proofs.YtpnofbiflaahhaaDoorW.PrintMore
set_option linter.unusedVariables false
set_option linter.unusedSimpArgs false

def isP (p : Int) : Prop := 0 ≤ p ∧ p < 6
instance (p : Int) : Decidable (isP p) := by unfold isP; infer_instance
def mayB (a b : Int) : Bool := decide (isP a) && (decide (isP b) && ((nextL.getD a.toNat 0 >>> b.toNat) % 2 == 1))
def phase_May.f (a0 : Int) (a1 : Int) : Option (Bool) := some (mayB a0 a1)
set_option maxHeartbeats 1600000 in
theorem phase_May.calls (a0 : Int) (a1 : Int) (r : Bool) (w : World) (h : phase_May.f a0 a1 = some r) (LA0 : Laid w) :
    Calls Tryd.prog 11 #[.int .i64 a0, .int .i64 a1] w fun e w' => e = .returned (.bool r) ∧ Below w.heap.size w w' := by
  have hr := Aside0.mk (Option.some.inj h)
  have c0 := LA0.2 0 _ rfl
  have c1 := LA0.2 1 _ rfl
  have c2 := LA0.2 2 _ rfl
  have c3 := LA0.2 3 _ rfl
  have c4 := LA0.2 4 _ rfl
  have c5 := LA0.2 5 _ rfl
  clear h LA0
  by_cases ha : isP a0
  · by_cases hb : isP a1
    · unfold isP at ha hb
      have h0 : a0 = 0 ∨ a0 = 1 ∨ a0 = 2 ∨ a0 = 3 ∨ a0 = 4 ∨ a0 = 5 := by omega
      have h1 : a1 = 0 ∨ a1 = 1 ∨ a1 = 2 ∨ a1 = 3 ∨ a1 = 4 ∨ a1 = 5 := by omega
      clear ha hb
      rcases h0 with rfl | rfl | rfl | rfl | rfl | rfl <;> rcases h1 with rfl | rfl | rfl | rfl | rfl | rfl <;>
        (obtain rfl := hr.out
         go_enter Tryd.func11, Tryd.ntmps11
         go_wp2_with (go_at_call 18; go_in)
         go_ret
         exact ⟨by rfl, by repeat (first | exact Below.refl _ _ | apply below_alloc | apply Below.drew)⟩)
    · obtain rfl : r = false := by rw [← hr.out]; simp [mayB, hb]
      have hb' : a1 < 0 ∨ 6 ≤ a1 := by unfold isP at hb; omega
      clear hr
      unfold isP at ha
      have a1' : decide (0 ≤ a0) = true := decide_eq_true ha.1
      have a2' : decide (a0 < 6) = true := decide_eq_true ha.2
      clear ha hb
      rcases hb' with hb | hb
      · have b1 : decide (0 ≤ a1) = false := decide_eq_false (by omega)
        clear hb
        go_enter Tryd.func11, Tryd.ntmps11
        go_wp2_with (go_at_call 18; go_in)
        go_ret
        exact ⟨by rfl, by repeat (first | exact Below.refl _ _ | apply below_alloc | apply Below.drew)⟩
      · have b1 : decide (0 ≤ a1) = true := decide_eq_true (by omega)
        have b2 : decide (a1 < 6) = false := decide_eq_false (by omega)
        clear hb
        go_enter Tryd.func11, Tryd.ntmps11
        go_wp2_with (go_at_call 18; go_in)
        go_ret
        exact ⟨by rfl, by repeat (first | exact Below.refl _ _ | apply below_alloc | apply Below.drew)⟩
  · obtain rfl : r = false := by rw [← hr.out]; simp [mayB, ha]
    have ha' : a0 < 0 ∨ 6 ≤ a0 := by unfold isP at ha; omega
    clear hr ha
    rcases ha' with ha | ha
    · have b1 : decide (0 ≤ a0) = false := decide_eq_false (by omega)
      clear ha
      go_enter Tryd.func11, Tryd.ntmps11
      go_wp2_with (go_at_call 18; go_in)
      go_ret
      exact ⟨by rfl, by repeat (first | exact Below.refl _ _ | apply below_alloc | apply Below.drew)⟩
    · have b1 : decide (0 ≤ a0) = true := decide_eq_true (by omega)
      have b2 : decide (a0 < 6) = false := decide_eq_false (by omega)
      clear ha
      go_enter Tryd.func11, Tryd.ntmps11
      go_wp2_with (go_at_call 18; go_in)
      go_ret
      exact ⟨by rfl, by repeat (first | exact Below.refl _ _ | apply below_alloc | apply Below.drew)⟩

def nameB (a : Int) : ByteArray := if isP a then namesL.getD a.toNat .empty else .empty
def phase_Name.f (a0 : Int) : Option (ByteArray) := some (nameB a0)
set_option maxHeartbeats 1600000 in
theorem phase_Name.calls (a0 : Int) (r : ByteArray) (w : World) (h : phase_Name.f a0 = some r) (LA0 : Laid w) :
    Calls Tryd.prog 9 #[.int .i64 a0] w fun e w' => e = .returned (.string r) ∧ Below w.heap.size w w' := by
  have hr := Aside0.mk (Option.some.inj h)
  have c0 := LA0.1 0 _ rfl
  have c1 := LA0.1 1 _ rfl
  have c2 := LA0.1 2 _ rfl
  have c3 := LA0.1 3 _ rfl
  have c4 := LA0.1 4 _ rfl
  have c5 := LA0.1 5 _ rfl
  clear h LA0
  by_cases ha : isP a0
  · unfold isP at ha
    have h0 : a0 = 0 ∨ a0 = 1 ∨ a0 = 2 ∨ a0 = 3 ∨ a0 = 4 ∨ a0 = 5 := by omega
    clear ha
    rcases h0 with rfl | rfl | rfl | rfl | rfl | rfl <;>
      (obtain rfl := hr.out
       go_enter Tryd.func9, Tryd.ntmps9
       go_wp2_with (go_at_call 18; go_in)
       go_ret
       exact ⟨by rfl, by repeat (first | exact Below.refl _ _ | apply below_alloc | apply Below.drew)⟩)
  · obtain rfl : r = .empty := by rw [← hr.out]; simp [nameB, ha]
    have ha' : a0 < 0 ∨ 6 ≤ a0 := by unfold isP at ha; omega
    clear hr ha
    rcases ha' with ha | ha
    · have b1 : decide (0 ≤ a0) = false := decide_eq_false (by omega)
      clear ha
      go_enter Tryd.func9, Tryd.ntmps9
      go_wp2_with (go_at_call 18; go_in)
      go_ret
      exact ⟨by rfl, by repeat (first | exact Below.refl _ _ | apply below_alloc | apply Below.drew)⟩
    · have b1 : decide (0 ≤ a0) = true := decide_eq_true (by omega)
      have b2 : decide (a0 < 6) = false := decide_eq_false (by omega)
      clear ha
      go_enter Tryd.func9, Tryd.ntmps9
      go_wp2_with (go_at_call 18; go_in)
      go_ret
      exact ⟨by rfl, by repeat (first | exact Below.refl _ _ | apply below_alloc | apply Below.drew)⟩
end Go.Proofs.YtpnofbiflaahhaaDoor.X
