-- Written by a program of this session (wip/xprint/xrow.py): the row of the law ConfTells, out of its PureS and the contract of the law's function.
import Derived.Test.YtomaojmccchibaaRows
import Derived.Test.YtomaojmccchibaaConfLawTells
import Derived.Test.YtomaojmccchibaaOpen
import Derived.Test.YtomaojmccchibaaPureConfTells
import Derived.WalkKit
import Derived.ProofKit
import Derived.OpenShut
import Derived.ShutString
import Derived.ChangeOld
import Derived.Below
import Derived.SizedLaws
namespace Go.Proofs.Ytomaojmccchibaa.confTells
open Go.ChangeShapes Go.WideShapes Go.ChangeAt Go.RowKit Go.Proofs.Ytomaojmccchibaa.X Go.Proofs.YtomaojmccchibaaW.PrintWords
open Go.ChangeMaps (open_string shut_string)
set_option linter.unusedVariables false
theorem own : ownKnob Try.prog.godebug = none := by kernel_rfl
theorem laidOut : laidOutB Try.prog = true := by kernel_rfl
set_option maxRecDepth 100000 in
theorem lifted (os : Os) (started : os.Started) (H : Type) (enc : TypeId × Value → H) :
    ReturnsInHanded {} Try.checked os 16 .any (Rows.confTellsSpec.pre6 enc Try.prog Try.f16 Rows.confTellsRow.domain false) (Rows.confTellsSpec.post enc Try.prog Try.f16 false true false false) := by
  refine returnsInHanded_of_change_sized (C := Try.checked) own started (by kernel_rfl) Try.func16
    (ChangeSpec.witness6 (enc := enc) (C := Try.checked) false ⟨#[], #[.agg #[.slice none 0 0, .int .i64 0, .int .i64 0, .slice none 0 0, .int .i64 0, .int .i64 0, .int .i64 0, .int .i64 0, .int .i64 0, .int .i64 0, .int .i64 0, .int .i64 0, .int .i64 0], .int .i64 0], []⟩ 8 (by kernel_rfl) (by kernel_rfl) (by kernel_rfl) (by kernel_rfl)) ?_
  intro W base args ds gs before hval0 hW hcnd hsz0 _
  have hval : ∀ (j : Nat) t v, Try.f16.params[j]? = some t → args[j]? = some v → Value.okWide Try.prog W .any base t v := hval0
  have hW' := hW
  obtain ⟨p, q, hA0, hV, rfl, hfz, hnd⟩ := hW
  have hA : DataW.TrodAll enc Try.prog W 0 (fun _ => true) true Try.f16.params.toList args.toList ds p := hA0
  rw [Try.params16] at hA hval
  obtain ⟨v0, vs0, d0, ds0, p0, q0, hargs, rfl, rfl, h0, r0⟩ := trodAll_cons hA
  obtain ⟨v1, vs1, d1, ds1, p1, q1, rfl, rfl, rfl, h1, r1⟩ := trodAll_cons r0
  obtain ⟨rfl, rfl, rfl⟩ := trodAll_nil r1
  obtain rfl : args = #[v0, v1] := by cases args; simp_all
  obtain ⟨rfl, rfl⟩ := trodVars_none hV
  have k0 := h0
  have lt0 : ∀ x ∈ p0, x.block < W.heap.size := by obtain ⟨m, hm⟩ := k0; exact DataW.trod_lt m _ _ _ hm
  obtain ⟨cs0, rfl, _⟩ := okWide_struct Try.underlying25 (hval 0 25 v0 rfl rfl)
  obtain ⟨fuel0, hf0⟩ := h0
  obtain ⟨y0, hK0, ok0⟩ := (Opn_struct Try.underlying25 (by kernel_rfl) (OpnF_cons rfl (by kernel_rfl) (Opn_slice Try.underlying22 (by kernel_rfl) (Opn_iso (f := fun x : S38 => (x.f0, x.f1)) (fun p => (⟨p.1, p.2⟩ : S38)) (fun _ => rfl) (Opn_struct Try.underlying38 (by kernel_rfl) (OpnF_cons rfl (by kernel_rfl) (Opn_int Try.underlying3) (OpnF_one rfl (by kernel_rfl) (Opn_iso (f := fun x : S36 => (x.f0, x.f1, x.f2, x.f3, x.f4, x.f5)) (fun p => (⟨p.1, p.2.1, p.2.2.1, p.2.2.2.1, p.2.2.2.2.1, p.2.2.2.2.2⟩ : S36)) (fun _ => rfl) (Opn_struct Try.underlying36 (by kernel_rfl) (OpnF_cons rfl (by kernel_rfl) (Opn_int Try.underlying3) (OpnF_cons rfl (by kernel_rfl) (Opn_int Try.underlying3) (OpnF_cons rfl (by kernel_rfl) (Opn_int Try.underlying3) (OpnF_cons rfl (by kernel_rfl) (Opn_int Try.underlying3) (OpnF_cons rfl (by kernel_rfl) (Opn_int Try.underlying3) (OpnF_one rfl (by kernel_rfl) (Opn_int Try.underlying3)))))))))))))) (OpnF_cons rfl (by kernel_rfl) (Opn_int Try.underlying3) (OpnF_cons rfl (by kernel_rfl) (Opn_int Try.underlying3) (OpnF_cons rfl (by kernel_rfl) (Opn_slice Try.underlying23 (by kernel_rfl) (Opn_int Try.underlying3)) (OpnF_cons rfl (by kernel_rfl) (Opn_int Try.underlying3) (OpnF_cons rfl (by kernel_rfl) (Opn_int Try.underlying3) (OpnF_cons rfl (by kernel_rfl) (Opn_int Try.underlying3) (OpnF_cons rfl (by kernel_rfl) (Opn_int Try.underlying3) (OpnF_cons rfl (by kernel_rfl) (Opn_int Try.underlying3) (OpnF_cons rfl (by kernel_rfl) (Opn_int Try.underlying3) (OpnF_cons rfl (by kernel_rfl) (Opn_int Try.underlying3) (OpnF_cons rfl (by kernel_rfl) (Opn_int Try.underlying3) (OpnF_one rfl (by kernel_rfl) (Opn_int Try.underlying3))))))))))))))) hf0
  obtain ⟨_, _, hcs0, ⟨_, _, rfl, hc0_0, hr0_0⟩, ⟨_, _, rfl, rfl, ⟨_, _, rfl, rfl, ⟨_, _, rfl, ⟨_, _, rfl, hc0_3, hr0_3⟩, ⟨_, _, rfl, rfl, ⟨_, _, rfl, rfl, ⟨_, _, rfl, rfl, ⟨_, _, rfl, rfl, ⟨_, _, rfl, rfl, ⟨_, _, rfl, rfl, ⟨_, _, rfl, rfl, ⟨_, _, rfl, rfl, rfl⟩⟩⟩⟩⟩⟩⟩⟩⟩⟩⟩⟩ := hK0
  obtain ⟨ys0, rfl⟩ : ∃ ys : List Value, cs0 = ys.toArray := ⟨cs0.toList, by simp⟩
  simp only [Value.cells, List.cons_append, List.nil_append] at hcs0
  subst hcs0
  obtain ⟨a1, rfl, rfl, rfl, w1⟩ := open_int Try.underlying3 (hval 1 3 v1 rfl rfl) h1
  clear hA0 hval0 hsz0
  have hk := Pure.ConfTells _ _ _ _ _ _ _ _ _ _ _ _ _ _ ok0 w1
  refine (paternosterlaw05_ConfTells.calls _ _ _ _ _ _ _ _ _ _ _ _ _ _ _ _ _ _ true W hr0_0 hc0_0 hr0_3 hc0_3 hk).mono fun e W' ⟨he, bel0⟩ => ?_
  have bel : Below W.heap.size W W' := bel0
  subst he
  exact ⟨_, rfl, _, _, _, [], _, [], hW', trodAll_mk1 (shut_bool Try.underlying4 _), (trodAll_cons_mk (Below.trod laidOut (by kernel_rfl) (of_decide_eq_true (by kernel_rfl)) k0 bel lt0) (trodAll_cons_mk (shut_int Try.underlying3 w1) trodAll_mk0)), rfl, bel.frame _, fun h => by cases h⟩
theorem over : Rows.confTellsRow.holds Try.pinned (OpenSpec.ofChange Rows.confTellsSpec) :=
  OpenClaim.holds_of_wide 16 Try.f16 rfl rfl rfl rfl rfl rfl rfl ⟨rfl, rfl, rfl, rfl, rfl⟩ rfl rfl rfl rfl rfl (by kernel_rfl) Try.func16 (by kernel_rfl)
    (of_decide_eq_true (by kernel_rfl)) (by unfold Func.isWrapper; first | (rw [if_pos (by decide +kernel)]; kernel_rfl) | (rw [if_neg (by decide +kernel)]; exact ⟨rfl, rfl⟩))
    (fun os started H enc _ => lifted os started H enc)
theorem proved : Rows.ConfTellsSaid := over
#print axioms proved
end Go.Proofs.Ytomaojmccchibaa.confTells
namespace Go.Proofs.Ytomaojmccchibaa
/-- The row, under a short name, for the claim. -/
theorem confTells_holds : Rows.ConfTellsSaid := confTells.proved
end Go.Proofs.Ytomaojmccchibaa
