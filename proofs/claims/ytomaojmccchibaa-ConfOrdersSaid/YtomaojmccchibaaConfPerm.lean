/- The order of a group, turned: each car once. -/
import Derived.Test.YtomaojmccchibaaConfPlain
namespace Go.Proofs.Ytomaojmccchibaa.X
open Go.RowKit Go.Proofs.YtomaojmccchibaaW.PrintWords Go.Proofs.YtomaojmccchibaaW.PrintLast Go.Proofs.YtomaojmccchibaaW.PrintMore
set_option linter.unusedVariables false
set_option linter.unusedSimpArgs false

theorem nodup_addN (l : List Int) : ∀ L : List Int, L.Nodup → (l.foldl addN L).Nodup := by
  induction l with
  | nil => intro L h; exact h
  | cons y l ih =>
    intro L h
    rw [List.foldl_cons]
    refine ih _ ?_
    unfold addN
    by_cases hc : L.contains y = true
    · rw [if_pos hc]; exact h
    · rw [if_neg hc, List.nodup_append]
      refine ⟨h, by simp, ?_⟩
      intro a ha b hb
      rw [List.mem_singleton] at hb
      subst hb
      rintro rfl
      exact hc (List.contains_iff_mem.2 ha)
theorem distN_le {a b : List Int} (h : a ⊆ b) : distN a ≤ distN b := by
  unfold distN
  refine (nodup_addN a [] List.nodup_nil).length_le_of_subset fun x hx => ?_
  rw [mem_addN] at hx ⊢
  exact hx.imp id (fun h1 => h h1)
theorem distN_eq {a b : List Int} (h : ∀ x, x ∈ a ↔ x ∈ b) : distN a = distN b :=
  Nat.le_antisymm (distN_le fun x hx => (h x).1 hx) (distN_le fun x hx => (h x).2 hx)
theorem ordV_perm {l : List S38} {a b : List Int} (h : a.Perm b) : ordV l a = ordV l b := by
  unfold ordV
  rw [h.all_eq, h.length_eq, distN_eq (a := a) (b := b) (fun x => h.mem_iff)]
theorem checkV_perm {l : List S38} {x1 x2 : Int} {o o' : List Int} {x4 x5 x6 x7 x8 x9 x10 x11 x12 : Int} (h : o.Perm o') : checkV l x1 x2 o x4 x5 x6 x7 x8 x9 x10 x11 x12 = checkV l x1 x2 o' x4 x5 x6 x7 x8 x9 x10 x11 x12 := by
  unfold checkV; rw [ordV_perm h]
/-- An order that begins elsewhere. -/
def rotL (o : List Int) (k : Nat) : List Int := o.drop k ++ o.take k
theorem rotL_perm (o : List Int) (k : Nat) : o.Perm (rotL o k) := by
  have := List.perm_append_comm (l₁ := o.take k) (l₂ := o.drop k)
  rwa [List.take_append_drop] at this
theorem rotL_len (o : List Int) (k : Nat) : (rotL o k).length = o.length := (rotL_perm o k).length_eq.symm
theorem rotL_at {o : List Int} {k i : Nat} (hk : k < o.length) (hi : i < o.length) (hr : i < (rotL o k).length) : (rotL o k)[i] = rd o (((i + k) % o.length : Nat) : Int) := by
  have hm : (i + k) % o.length < o.length := Nat.mod_lt _ (by omega)
  rw [rdI_at hm]
  simp only [rotL]
  by_cases h : i < o.length - k
  · rw [List.getElem_append_left (by simp; omega), List.getElem_drop]
    congr 1
    rw [Nat.mod_eq_of_lt (by omega)]; omega
  · rw [List.getElem_append_right (by simp; omega), List.getElem_take]
    congr 1
    rw [List.length_drop, show i + k = (i + k - o.length) + o.length by omega, Nat.add_mod_right, Nat.mod_eq_of_lt (by omega)]; omega
end Go.Proofs.Ytomaojmccchibaa.X
