/- A group as the reference has it: its order is the group's own. -/
import Derived.Test.YtomaojmccchibaaConfOf
import Derived.Test.YtomaojmccchibaaConfRef
namespace Go.Proofs.Ytomaojmccchibaa.X
open Go.RowKit Go.Proofs.YtomaojmccchibaaW.PrintWords Go.Proofs.YtomaojmccchibaaW.PrintLast Go.Proofs.YtomaojmccchibaaW.PrintMore
set_option linter.unusedVariables false
set_option linter.unusedSimpArgs false

theorem heap_bank : Kd.Heap k38 := by
  unfold k38 k36
  repeat (first | exact Kd.heap_int _ | apply Kd.heap_iso | apply Kd.heap_pair)
section
variable (l : List S38) (x1 x2 : Int) (o : List Int) (x4 x5 x6 x7 x8 x9 x10 x11 x12 : Int)
theorem of_loop (hl : l.length ≤ 1000) (m : Nat) : ∀ (k i : Nat), i + m = l.length → m < k →
    ofG.l0 k (i : Int) l x1 x2 o x4 x5 x6 x7 x8 x9 x10 x11 x12 ((l.take i).map toR) x1 x2 o x4 x5 x6 x7 x8 x9 x10 x11 x12 = some (l.map toR, x1, x2, o, x4, x5, x6, x7, x8, x9, x10, x11, x12) := by
  induction m with
  | zero =>
    intro k i hi hk
    obtain ⟨k, rfl⟩ : ∃ n, k = n + 1 := ⟨k - 1, by omega⟩
    simp only [ofG.l0]
    rw [if_neg (by omega), List.take_of_length_le (by omega)]
  | succ m ih =>
    intro k i hi hk
    obtain ⟨k, rfl⟩ : ∃ n, k = n + 1 := ⟨k - 1, by omega⟩
    have e := ih k (i + 1) (by omega) (by omega)
    rw [List.take_succ_eq_append_getElem (by omega), List.map_append, ← rdT_at (show i < l.length by omega)] at e
    simp only [ofG.l0]
    rw [if_pos (by omega), if_pos (by omega), if_pos (by rw [List.length_map, List.length_take]; omega), w64 (x := (i : Int) + 1) (by omega) (by omega)]
    exact e
theorem of_f (hl : l.length ≤ 1000) : ofG.f (l.length + 1) l x1 x2 o x4 x5 x6 x7 x8 x9 x10 x11 x12 = some (l.map toR, x1, x2, o, x4, x5, x6, x7, x8, x9, x10, x11, x12) :=
  of_loop l x1 x2 o x4 x5 x6 x7 x8 x9 x10 x11 x12 hl l.length (l.length + 1) 0 (by omega) (by omega)
theorem of_any (A B : Option Addr) (cn cm : Nat) (w : World) (hr : Kd.C k38 w A l.length l) (hcn : l.length ≤ cn) (hl : l.length ≤ 1000) :
    Calls Try.prog 21 #[confV A B l.length cn o.length cm x1 x2 x4 x5 x6 x7 x8 x9 x10 x11 x12] w fun e w' => ∃ (A' : Option Addr) (c' : Nat), e = .returned (confV A' B l.length c' o.length cm x1 x2 x4 x5 x6 x7 x8 x9 x10 x11 x12) ∧ l.length ≤ c' ∧ Kd.C k69 w' A' l.length (l.map toR) ∧ Below w.heap.size w w' := by
  refine (of_walk (l.length + 1) A cn l x1 x2 (fun _ => False) B cm o x4 x5 x6 x7 x8 x9 x10 x11 x12 (l.map toR) x1 x2 o x4 x5 x6 x7 x8 x9 x10 x11 x12 w w (Below.refl _ _) (fun W hk => ?_) hcn (of_f l x1 x2 o x4 x5 x6 x7 x8 x9 x10 x11 x12 hl)).mono ?_
  · exact heap_bank.C (fun i hi => hk.2 i hi (fun h => h)) hr
  · rintro e w' ⟨v, rfl, hR, hB, -⟩
    obtain ⟨A', c', rfl, h1, h2⟩ := Kd.R_reads hR
    rw [List.length_map] at h1 h2
    exact ⟨A', c', by rw [List.length_map]; rfl, h1, h2, hB⟩
end
end Go.Proofs.Ytomaojmccchibaa.X
