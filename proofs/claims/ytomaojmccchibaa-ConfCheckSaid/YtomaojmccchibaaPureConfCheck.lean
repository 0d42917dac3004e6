/- ConfCheck: whether any group may be is the document's. No condition. -/
import Derived.Test.YtomaojmccchibaaPsConfCheck
namespace Go.Proofs.Ytomaojmccchibaa.Pure
open Go.RowKit Go.Proofs.Ytomaojmccchibaa.X Go.Proofs.YtomaojmccchibaaW.PrintWords

theorem perm_of_sub : ∀ {a b : List Int}, a.Nodup → a ⊆ b → b.length ≤ a.length → a.Perm b := by
  intro a
  induction a with
  | nil =>
    intro b _ _ hl
    have : b = [] := List.eq_nil_of_length_eq_zero (by simpa using hl)
    rw [this]
  | cons x a ih =>
    intro b hn hs hl
    have hx : x ∈ b := hs (by simp)
    have h1 := List.perm_cons_erase hx
    have hlen := h1.length_eq
    rw [List.nodup_cons] at hn
    refine (List.Perm.cons x (ih hn.2 (fun y hy => ?_) ?_)).trans h1.symm
    · have hy2 : y ∈ b := hs (by simp [hy])
      have hne : y ≠ x := fun e => hn.1 (e ▸ hy)
      exact (List.mem_erase_of_ne hne).2 hy2
    · simp only [List.length_cons] at hl hlen; omega
theorem distN_nodup {l : List Int} (h : l.Nodup) : distN l = l.length := by
  unfold distN
  have h1 := nodup_addN l [] List.nodup_nil
  refine Nat.le_antisymm (h1.length_le_of_subset fun x hx => ?_) (h.length_le_of_subset fun x hx => ?_)
  · have := (mem_addN l [] x).1 hx; simpa using this
  · exact (mem_addN l [] x).2 (.inr hx)
/-- All cars. -/
def rng (n : Nat) : List Int := (List.range n).map fun (c : Nat) => (c : Int)
theorem rng_mem {n : Nat} {x : Int} : x ∈ rng n ↔ 0 ≤ x ∧ x < n := by
  unfold rng
  rw [List.mem_map]
  constructor
  · rintro ⟨c, hc, rfl⟩
    have := List.mem_range.1 hc
    omega
  · intro h
    exact ⟨x.toNat, List.mem_range.2 (by omega), by omega⟩
theorem rng_len (n : Nat) : (rng n).length = n := by unfold rng; simp
theorem rng_nodup (n : Nat) : (rng n).Nodup := by
  unfold rng
  induction n with
  | zero => simp
  | succ n ih =>
    rw [List.range_succ, List.map_append, List.nodup_append]
    refine ⟨ih, by simp, ?_⟩
    intro a ha b hb
    rw [List.mem_map] at ha
    obtain ⟨c, hc, rfl⟩ := ha
    have := List.mem_range.1 hc
    simp at hb
    omega
theorem once_iff {o : List Int} {n : Nat} : onceV o n = true ↔ ∀ c : Nat, c < n → o.count (c : Int) = 1 := by
  unfold onceV
  rw [List.all_eq_true]
  constructor
  · intro h c hc
    simpa using h c (List.mem_range.2 hc)
  · intro h c hc
    simpa using h c (List.mem_range.1 hc)
theorem once_perm {o : List Int} {n : Nat} (h : onceV o n = true) (hl : o.length = n) : (rng n).Perm o := by
  refine perm_of_sub (rng_nodup n) (fun x hx => ?_) (by rw [rng_len]; omega)
  have hx := rng_mem.1 hx
  have h1 := once_iff.1 h x.toNat (by omega)
  rw [show ((x.toNat : Nat) : Int) = x by omega] at h1
  exact List.count_pos_iff.1 (by omega)
theorem ord_iff {l : List S38} {o : List Int} {n : Nat} (hc : carsV l = n) (h0 : 1 ≤ n) (h1 : n ≤ 64) : ordV l o = true ↔ ((o.length : Int) = carsV l ∧ onceV o (carsV l).toNat = true) := by
  unfold ordV
  rw [hc, w64 (by omega) (by omega), Int.toNat_natCast]
  simp only [Bool.and_eq_true, decide_eq_true_eq, List.all_eq_true, inV_t]
  constructor
  · rintro ⟨ha, hl, hd⟩
    refine ⟨hl, once_iff.2 fun c hcn => ?_⟩
    have hD : (o.foldl addN []).Perm (rng n) := by
      refine perm_of_sub (nodup_addN o [] List.nodup_nil) (fun x hx => ?_) (by rw [rng_len]; unfold distN at hd; omega)
      have hx : x ∈ o := by have := (mem_addN o [] x).1 hx; simpa using this
      have := ha x hx
      exact rng_mem.2 (by omega)
    have hp : (rng n).Perm o := by
      refine perm_of_sub (rng_nodup n) (fun x hx => ?_) (by rw [rng_len]; omega)
      have := (mem_addN o [] x).1 (hD.mem_iff.2 hx)
      simpa using this
    rw [← hp.count_eq, (rng_nodup n).count, if_pos (rng_mem.2 (by omega))]
  · rintro ⟨hl, ho⟩
    have hp := once_perm ho (by omega)
    refine ⟨fun x hx => ?_, hl, ?_⟩
    · have := rng_mem.1 (hp.mem_iff.2 hx)
      omega
    · rw [← distN_eq (a := rng n) (b := o) (fun x => hp.mem_iff), distN_nodup (rng_nodup n), hp.length_eq]
theorem ref_eq (l : List S38) (x1 x2 : Int) (o : List Int) (x4 x5 x6 x7 x8 x9 x10 x11 x12 : Int) : checkV l x1 x2 o x4 x5 x6 x7 x8 x9 x10 x11 x12 = refV l x1 x2 o x4 x5 x6 x7 x8 x9 x10 x11 x12 := by
  rw [Bool.eq_iff_iff]
  unfold checkV refV
  simp only [Bool.and_eq_true, badB_t, badI_t, inV_t, decide_eq_true_eq]
  have key : (1 ≤ (l.length : Int) ∧ (l.length : Int) ≤ 8) → (∀ b ∈ l, (1 ≤ b.f0 ∧ b.f0 ≤ 8) ∧ Ok b.f1) → (ordV l o = true ↔ ((o.length : Int) = carsV l ∧ onceV o (carsV l).toNat = true)) := by
    intro h1 h2
    have h3 := sumC_le l (fun b hb => (h2 b hb).1)
    have h4 : carsV l = sumC l := by
      unfold carsV
      rw [cars_fold l 0 (fun b hb => by have := (h2 b hb).1; omega) (by omega) (by omega)]; omega
    exact ord_iff (n := (sumC l).toNat) (by omega) (by omega) (by omega)
  constructor
  · rintro ⟨a1, a2, ⟨a3, a4⟩, ⟨a5, a6⟩, ⟨a7, a8, a9, a10⟩, ⟨⟨a11, a12⟩, a13⟩, a14⟩
    rw [w64 (by omega) (by omega)] at a4
    have a15 := (key a1 a2).1 a14
    exact ⟨a1, a2, a3, a4, a15.1, a15.2, a5, a6, a7, a8, a9, a10, a11, a12, a13⟩
  · rintro ⟨a1, a2, a3, a4, a15, a16, a5, a6, a7, a8, a9, a10, a11, a12, a13⟩
    refine ⟨a1, a2, ⟨a3, ?_⟩, ⟨a5, a6⟩, ⟨a7, a8, a9, a10⟩, ⟨⟨a11, a12⟩, a13⟩, (key a1 a2).2 ⟨a15, a16⟩⟩
    rw [w64 (by omega) (by omega)]; exact a4
theorem ConfCheck : paternosterlaw05_ConfCheck.PureS := by
  intro l x1 x2 o x4 x5 x6 x7 x8 x9 x10 x11 x12 _
  unfold paternosterlaw05_ConfCheck.f
  rw [ref_eq]
  split <;> simp
end Go.Proofs.Ytomaojmccchibaa.Pure
