/- Arguments opened to the values that the printed contracts speak of: whole numbers, bools, strings, slices and structs of these, in any depth. -/
import Derived.Test.YtomaojmccchibaaXx0
import Derived.Deep.Slices
import Derived.ChangeSame
import Derived.OpenShut
namespace Go.Proofs.Ytomaojmccchibaa.X
open Go.RowKit Go.ChangeShapes Go.WideShapes Go.Deep Go.Proofs.YtomaojmccchibaaW.PrintWords
/-- Cells that read as a datum of type t hold a value of the kind d, and it is ok. -/
def Opn (P : Program) (t : TypeId) {α : Type} (d : Kd α) (ok : α → Prop) : Prop :=
  ∀ {H : Type} {enc : TypeId × Value → H} {w : World} {base : Nat} {spare : Nat → Bool} {held : Bool} {fuel : Nat} {cs : List Value} {x : DataW H × List MemPlace},
    DataW.trod enc P w base spare held fuel t cs = some x → ∃ v, d.K w v cs ∧ ok v
/-- The same of some fields, from a place on. -/
def OpnF (P : Program) (fs : List Field) (o : Nat) {α : Type} (d : Kd α) (ok : α → Prop) : Prop :=
  ∀ {H : Type} {enc : TypeId × Value → H} {w : World} {base : Nat} {spare : Nat → Bool} {held : Bool} {n : Nat} {cs : List Value},
    (∀ f ∈ fs, ∃ x, DataW.trod enc P w base spare held n f.type ((cs.drop f.offset).take (P.cellsOf f.type)) = some x) → cs.length = o + d.sz → ∃ v, d.K w v (cs.drop o) ∧ ok v
variable {P : Program} {t e : TypeId} {α β : Type}
theorem Opn_int {k : IntKind} (ht : P.underlying t = some (.int k)) : Opn P t (Kd.int k) (fun x => (Lit.int k x).wf = true) := by
  intro H enc w base spare held fuel cs x h
  obtain ⟨n, rfl, _, hw⟩ := DataW.trod_int ht h
  exact ⟨n, rfl, hw⟩
theorem Opn_bool (ht : P.underlying t = some .bool) : Opn P t Kd.bool (fun _ => True) := by
  intro H enc w base spare held fuel cs x h
  obtain ⟨b, rfl, _⟩ := DataW.trod_bool ht h
  exact ⟨b, rfl, trivial⟩
theorem Opn_string (ht : P.underlying t = some .string) : Opn P t Kd.string (fun s => s.size ≤ maxLen) := by
  intro H enc w base spare held fuel cs x h
  obtain ⟨s, rfl, _, hs⟩ := DataW.trod_string ht h
  exact ⟨s, rfl, hs⟩
theorem Opn_iso {d : Kd α} {ok : α → Prop} {f : β → α} (g : α → β) (hfg : ∀ a, f (g a) = a) (h : Opn P t d ok) : Opn P t (Kd.iso d f) (fun b => ok (f b)) := by
  intro H enc w base spare held fuel cs x hx
  obtain ⟨v, hK, hok⟩ := h hx
  exact ⟨g v, by show d.K w (f (g v)) cs; rw [hfg]; exact hK, by show ok (f (g v)); rw [hfg]; exact hok⟩
theorem OpnF_one {f : Field} {o : Nat} {d : Kd α} {ok : α → Prop} (ho : f.offset = o) (hc : P.cellsOf f.type = d.sz) (h : Opn P f.type d ok) : OpnF P [f] o d ok := by
  intro H enc w base spare held n cs hf hl
  obtain ⟨x, hx⟩ := hf f (by simp)
  rw [ho, hc, List.take_of_length_le (by simp; omega)] at hx
  exact h hx
theorem OpnF_cons {f : Field} {fs : List Field} {o : Nat} {d : Kd α} {d2 : Kd β} {ok : α → Prop} {ok2 : β → Prop} (ho : f.offset = o) (hc : P.cellsOf f.type = d.sz) (h : Opn P f.type d ok) (h2 : OpnF P fs (o + d.sz) d2 ok2) :
    OpnF P (f :: fs) o (Kd.pair d d2) (fun p => ok p.1 ∧ ok2 p.2) := by
  intro H enc w base spare held n cs hf hl
  have hl : cs.length = o + (d.sz + d2.sz) := hl
  obtain ⟨x, hx⟩ := hf f (by simp)
  rw [ho, hc] at hx
  obtain ⟨v, hK, hok⟩ := h hx
  obtain ⟨v2, hK2, hok2⟩ := h2 (fun g hg => hf g (by simp [hg])) (by omega)
  refine ⟨(v, v2), ⟨_, _, ?_, hK, hK2⟩, hok, hok2⟩
  rw [← List.drop_drop, List.take_append_drop]
theorem Opn_struct {fs : Array Field} {d : Kd α} {ok : α → Prop} (ht : P.underlying t = some (.struct fs)) (hc : P.cellsOf t = d.sz) (h : OpnF P fs.toList 0 d ok) : Opn P t d ok := by
  intro H enc w base spare held fuel cs x hx
  obtain ⟨xs, n, _, _, hl, hlen, hf⟩ := DataW.trod_struct ht hx
  obtain ⟨v, hK, hok⟩ := h (enc := enc) (w := w) (base := base) (spare := spare) (held := held) (n := n) (cs := cs) (fun f hfm => by
    obtain ⟨i, hi, he⟩ := List.getElem_of_mem hfm
    have hi' : i < fs.size := by simpa using hi
    have := hf i f (by rw [Array.getElem?_eq_getElem hi']; simpa using he)
    rw [List.getElem?_eq_getElem (by omega)] at this
    exact ⟨_, this⟩) (by omega)
  exact ⟨v, by simpa using hK, hok⟩
theorem gather {R : Nat → α → Prop} (len : Nat) (key : ∀ i, i < len → ∃ v, R i v) : ∃ xs : List α, xs.length = len ∧ ∀ i p, xs[i]? = some p → R i p := by
  induction len with
  | zero => exact ⟨[], rfl, fun i p hi => by simp at hi⟩
  | succ len ih =>
    obtain ⟨xs, hxl, hxs⟩ := ih (fun i hi => key i (by omega))
    obtain ⟨v, hv⟩ := key len (by omega)
    refine ⟨xs ++ [v], by simp [hxl], fun i p hi => ?_⟩
    by_cases hlt : i < xs.length
    · rw [List.getElem?_append_left hlt] at hi
      exact hxs i p hi
    · have hlt2 : i < (xs ++ [v]).length := (List.getElem?_eq_some_iff.1 hi).1
      simp at hlt2
      obtain rfl : i = xs.length := by omega
      rw [List.getElem?_append_right (Nat.le_refl _)] at hi
      simp at hi
      subst hi
      rw [hxl]
      exact hv
theorem Opn_slice {d : Kd α} {ok : α → Prop} (ht : P.underlying t = some (.slice e)) (hc : P.cellsOf e = d.sz) (h : Opn P e d ok) : Opn P t (Kd.slice e d) (fun xs => xs.length ≤ maxLen ∧ ∀ x ∈ xs, ok x) := by
  intro H enc w base spare held fuel cs x hx
  rcases open_slice ht hx with ⟨rfl, _⟩ | ⟨a, len, cap, m, n, D, Pl, rfl, _, hl, hm, hmm, _, hel⟩
  · refine ⟨[], ⟨none, 0, rfl, Nat.le_refl _, rfl, by simp, fun h => absurd h (Nat.lt_irrefl 0)⟩, ?_, ?_⟩
    · exact Nat.zero_le _
    · intro x hx; cases hx
  · have hlm : len ≤ m := by rw [hmm]; split <;> omega
    have key : ∀ i, i < len → ∃ v cs', w.cells? base (a.add (i * d.sz)) d.sz = some cs' ∧ d.K w v cs' ∧ ok v := by
      intro i hi
      obtain ⟨cs', h1, h2⟩ := hel i (by omega)
      rw [hc] at h1
      obtain ⟨v, hK, hok⟩ := h h2
      exact ⟨v, cs', h1, hK, hok⟩
    have hex := gather (R := fun i v => ∃ cs', w.cells? base (a.add (i * d.sz)) d.sz = some cs' ∧ d.K w v cs' ∧ ok v) len key
    obtain ⟨xs, hxl, hxs⟩ := hex
    unfold maxLen at hm
    refine ⟨xs, ⟨some a, cap, by rw [hxl], by omega, rfl, by omega, fun _ => ⟨a, rfl, fun j p hp => ?_⟩⟩, ?_, ?_⟩
    · obtain ⟨cs', h1, h2, _⟩ := hxs j p hp
      obtain ⟨_, hcl, hat⟩ := World.cells?_some h1
      refine ⟨cs', hcl, h2, fun i u hu => ?_⟩
      have hil : i < d.sz := by rw [← hcl]; exact (List.getElem?_eq_some_iff.1 hu).1
      rw [← Go.Deep.add_add, hat i hil, hu]
    · show xs.length ≤ maxLen
      unfold maxLen; omega
    · intro x hx
      obtain ⟨i, hi, he⟩ := List.getElem_of_mem hx
      obtain ⟨_, _, _, hok⟩ := hxs i x (by rw [List.getElem?_eq_getElem hi, he])
      exact hok
end Go.Proofs.Ytomaojmccchibaa.X
