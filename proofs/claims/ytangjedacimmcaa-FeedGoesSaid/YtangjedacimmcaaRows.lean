/-
  No cell of these rows narrows 'for every input' (looked for: loops, veiled, ifaces, maps, wideKeys, modest, calm, conditions, laid).
  DERIVED. THE GIVEN ROWS OF THIS SEAT. 6 by the template 'for every input the law returns true; each argument reads behind the call as it read before'; 0 by the template 'total and deterministic' (their statements: YtangjedacimmcaaTotals.lean).
  GIVEN WITH THE SEED: the statements are not yours to turn. If you find one false, say at which input.
  Laid BY PROGRAM, IN A SANDBOX (cutbox-rows.mjs): the forced cells as the released guide's own fill.sh prints them over the translation b0cac0878421e21d… (all of the seat's roots in one cut). By AI agents, Wed Nov 11 2026. No macro, syntax, notation, axiom, sorry.
-/
import Derived.Test.YtangjedacimmcaaChecked
import GoSem.Claim
import GoSem.ClaimJoined
import GoSem.ClaimMapViews
import Derived.JoinedTies
import Derived.KernelRfl
namespace Go.Proofs.Ytangjedacimmcaa
/- THE CELL 'sum', in the pinned program and in every row, IS THE sha256 OF THE DUMP (.gsa) THAT YtangjedacimmcaaProg.lean LOADS. Nothing in Lean hashes anything: it is a label: what it is worth is what the hold of that sum in a sandbox is worth. -/
noncomputable def Try.pinned : Pinned := { name := "ytangjedacimmcaa", sum := "b0cac0878421e21d686501e5a86513cd00a8f5c8540c82a5867639549e2078b8", checked := Try.checked }
namespace Rows
def none {H : Type} : Left H := { results := [], args := [] }

/-- 'paternosterlaw10.FeedSteps': WHATEVER THE INPUT: true; the input reads as it did. -/
def feedStepsSpec : ChangeSpec := { name := "feedSteps", fn := fun _ => fun
  | [d1, d2, d3, d4] => { results := [.lit (.bool true)], args := [d1, d2, d3, d4] }
  | _ => none }
def feedStepsRow : OpenClaim := { program := "ytangjedacimmcaa", sum := "b0cac0878421e21d686501e5a86513cd00a8f5c8540c82a5867639549e2078b8", func := "paternoster/paternosterlaw10.FeedSteps", spec := "feedSteps", apart := false }
def FeedStepsSaid : Prop := feedStepsRow.holds Try.pinned (OpenSpec.ofChange feedStepsSpec)

/-- ITS FALSE NEIGHBOUR: 'it returns false'. Refute it at one input. -/
def feedStepsWrong : ChangeSpec := { name := "feedSteps", fn := fun _ => fun
  | [d1, d2, d3, d4] => { results := [.lit (.bool false)], args := [d1, d2, d3, d4] }
  | _ => none }
def FeedStepsWrongFalsely : Prop := feedStepsRow.holds Try.pinned (OpenSpec.ofChange feedStepsWrong)

/-- 'paternosterlaw10.FeedKnows': WHATEVER THE INPUT: true; the input reads as it did. -/
def feedKnowsSpec : ChangeSpec := { name := "feedKnows", fn := fun _ => fun
  | [d1, d2] => { results := [.lit (.bool true)], args := [d1, d2] }
  | _ => none }
def feedKnowsRow : OpenClaim := { program := "ytangjedacimmcaa", sum := "b0cac0878421e21d686501e5a86513cd00a8f5c8540c82a5867639549e2078b8", func := "paternoster/paternosterlaw10.FeedKnows", spec := "feedKnows", apart := false }
def FeedKnowsSaid : Prop := feedKnowsRow.holds Try.pinned (OpenSpec.ofChange feedKnowsSpec)

/-- ITS FALSE NEIGHBOUR: 'it returns false'. Refute it at one input. -/
def feedKnowsWrong : ChangeSpec := { name := "feedKnows", fn := fun _ => fun
  | [d1, d2] => { results := [.lit (.bool false)], args := [d1, d2] }
  | _ => none }
def FeedKnowsWrongFalsely : Prop := feedKnowsRow.holds Try.pinned (OpenSpec.ofChange feedKnowsWrong)

/-- 'paternosterlaw10.FeedGoes': WHATEVER THE INPUT: true; the input reads as it did. -/
def feedGoesSpec : ChangeSpec := { name := "feedGoes", fn := fun _ => fun
  | [d1, d2] => { results := [.lit (.bool true)], args := [d1, d2] }
  | _ => none }
def feedGoesRow : OpenClaim := { program := "ytangjedacimmcaa", sum := "b0cac0878421e21d686501e5a86513cd00a8f5c8540c82a5867639549e2078b8", func := "paternoster/paternosterlaw10.FeedGoes", spec := "feedGoes", apart := false }
def FeedGoesSaid : Prop := feedGoesRow.holds Try.pinned (OpenSpec.ofChange feedGoesSpec)

/-- ITS FALSE NEIGHBOUR: 'it returns false'. Refute it at one input. -/
def feedGoesWrong : ChangeSpec := { name := "feedGoes", fn := fun _ => fun
  | [d1, d2] => { results := [.lit (.bool false)], args := [d1, d2] }
  | _ => none }
def FeedGoesWrongFalsely : Prop := feedGoesRow.holds Try.pinned (OpenSpec.ofChange feedGoesWrong)

/-- 'paternosterlaw10.FeedLags': WHATEVER THE INPUT: true; the input reads as it did. -/
def feedLagsSpec : ChangeSpec := { name := "feedLags", fn := fun _ => fun
  | [d1, d2, d3] => { results := [.lit (.bool true)], args := [d1, d2, d3] }
  | _ => none }
def feedLagsRow : OpenClaim := { program := "ytangjedacimmcaa", sum := "b0cac0878421e21d686501e5a86513cd00a8f5c8540c82a5867639549e2078b8", func := "paternoster/paternosterlaw10.FeedLags", spec := "feedLags", apart := false }
def FeedLagsSaid : Prop := feedLagsRow.holds Try.pinned (OpenSpec.ofChange feedLagsSpec)

/-- ITS FALSE NEIGHBOUR: 'it returns false'. Refute it at one input. -/
def feedLagsWrong : ChangeSpec := { name := "feedLags", fn := fun _ => fun
  | [d1, d2, d3] => { results := [.lit (.bool false)], args := [d1, d2, d3] }
  | _ => none }
def FeedLagsWrongFalsely : Prop := feedLagsRow.holds Try.pinned (OpenSpec.ofChange feedLagsWrong)

/-- 'paternosterlaw10.FeedStays': WHATEVER THE INPUT: true; the input reads as it did. -/
def feedStaysSpec : ChangeSpec := { name := "feedStays", fn := fun _ => fun
  | [d1, d2, d3, d4] => { results := [.lit (.bool true)], args := [d1, d2, d3, d4] }
  | _ => none }
def feedStaysRow : OpenClaim := { program := "ytangjedacimmcaa", sum := "b0cac0878421e21d686501e5a86513cd00a8f5c8540c82a5867639549e2078b8", func := "paternoster/paternosterlaw10.FeedStays", spec := "feedStays", apart := false }
def FeedStaysSaid : Prop := feedStaysRow.holds Try.pinned (OpenSpec.ofChange feedStaysSpec)

/-- ITS FALSE NEIGHBOUR: 'it returns false'. Refute it at one input. -/
def feedStaysWrong : ChangeSpec := { name := "feedStays", fn := fun _ => fun
  | [d1, d2, d3, d4] => { results := [.lit (.bool false)], args := [d1, d2, d3, d4] }
  | _ => none }
def FeedStaysWrongFalsely : Prop := feedStaysRow.holds Try.pinned (OpenSpec.ofChange feedStaysWrong)

/-- 'paternosterlaw10.FeedDead': WHATEVER THE INPUT: true; the input reads as it did. -/
def feedDeadSpec : ChangeSpec := { name := "feedDead", fn := fun _ => fun
  | [d1, d2, d3] => { results := [.lit (.bool true)], args := [d1, d2, d3] }
  | _ => none }
def feedDeadRow : OpenClaim := { program := "ytangjedacimmcaa", sum := "b0cac0878421e21d686501e5a86513cd00a8f5c8540c82a5867639549e2078b8", func := "paternoster/paternosterlaw10.FeedDead", spec := "feedDead", apart := false }
def FeedDeadSaid : Prop := feedDeadRow.holds Try.pinned (OpenSpec.ofChange feedDeadSpec)

/-- ITS FALSE NEIGHBOUR: 'it returns false'. Refute it at one input. -/
def feedDeadWrong : ChangeSpec := { name := "feedDead", fn := fun _ => fun
  | [d1, d2, d3] => { results := [.lit (.bool false)], args := [d1, d2, d3] }
  | _ => none }
def FeedDeadWrongFalsely : Prop := feedDeadRow.holds Try.pinned (OpenSpec.ofChange feedDeadWrong)

/- THE SECOND FORM. 'bulk': how many values and letters a reading holds, each counted each time it is reached (what is shared counts as often as it is met; a slice's spare places count too). A statement '..UptoSaid' is the law's where the arguments, and the package variables that the reading takes, are together of bulk at most 1048576: NARROWER than '..Said'. Prove '..Said' where nothing that the law and all that it calls make is longer than what came in: it says more and counts as full. Else prove '..UptoSaid'. A law counts once. -/
mutual
def uptoBulk {H : Type} : DataW H → Nat
  | .lit (.string bytes) => bytes.length + 1
  | .lit _ => 1
  | .nil => 1
  | .ptr d => uptoBulk d + 1
  | .slice elems spare => uptoBulkAll elems + uptoBulkAll spare + 1
  | .agg parts => uptoBulkAll parts + 1
  | .iface _ d => uptoBulk d + 1
  | .map entries => uptoBulkEntries entries + 1
  | .held _ => 1
def uptoBulkAll {H : Type} : List (DataW H) → Nat
  | [] => 0
  | d :: r => uptoBulk d + uptoBulkAll r
def uptoBulkEntries {H : Type} : List (Lit × DataW H) → Nat
  | [] => 0
  | x :: r => uptoBulkEntry x + uptoBulkEntries r
def uptoBulkEntry {H : Type} : Lit × DataW H → Nat
  | (.string bytes, d) => bytes.length + uptoBulk d + 1
  | (_, d) => uptoBulk d + 1
 end
def uptoSmall : (H : Type) → List (DataW H) → Bool := fun _ ds => decide (uptoBulkAll ds ≤ 1048576)
def OpenSpec.upto (s : _root_.Go.ChangeSpec) : _root_.Go.OpenSpec := { _root_.Go.OpenSpec.ofChange s with cond := some uptoSmall }

/-- 'paternosterlaw10.FeedSteps', WHERE WHAT IT READS IS OF BULK AT MOST 1048576: true; the input reads as it did. -/
def feedStepsUptoRow : OpenClaim := { program := "ytangjedacimmcaa", sum := "b0cac0878421e21d686501e5a86513cd00a8f5c8540c82a5867639549e2078b8", func := "paternoster/paternosterlaw10.FeedSteps", spec := "feedSteps", apart := false, narrowed := true }
def FeedStepsUptoSaid : Prop := feedStepsUptoRow.holds Try.pinned (OpenSpec.upto feedStepsSpec)

/-- 'paternosterlaw10.FeedKnows', WHERE WHAT IT READS IS OF BULK AT MOST 1048576: true; the input reads as it did. -/
def feedKnowsUptoRow : OpenClaim := { program := "ytangjedacimmcaa", sum := "b0cac0878421e21d686501e5a86513cd00a8f5c8540c82a5867639549e2078b8", func := "paternoster/paternosterlaw10.FeedKnows", spec := "feedKnows", apart := false, narrowed := true }
def FeedKnowsUptoSaid : Prop := feedKnowsUptoRow.holds Try.pinned (OpenSpec.upto feedKnowsSpec)

/-- 'paternosterlaw10.FeedGoes', WHERE WHAT IT READS IS OF BULK AT MOST 1048576: true; the input reads as it did. -/
def feedGoesUptoRow : OpenClaim := { program := "ytangjedacimmcaa", sum := "b0cac0878421e21d686501e5a86513cd00a8f5c8540c82a5867639549e2078b8", func := "paternoster/paternosterlaw10.FeedGoes", spec := "feedGoes", apart := false, narrowed := true }
def FeedGoesUptoSaid : Prop := feedGoesUptoRow.holds Try.pinned (OpenSpec.upto feedGoesSpec)

/-- 'paternosterlaw10.FeedLags', WHERE WHAT IT READS IS OF BULK AT MOST 1048576: true; the input reads as it did. -/
def feedLagsUptoRow : OpenClaim := { program := "ytangjedacimmcaa", sum := "b0cac0878421e21d686501e5a86513cd00a8f5c8540c82a5867639549e2078b8", func := "paternoster/paternosterlaw10.FeedLags", spec := "feedLags", apart := false, narrowed := true }
def FeedLagsUptoSaid : Prop := feedLagsUptoRow.holds Try.pinned (OpenSpec.upto feedLagsSpec)

/-- 'paternosterlaw10.FeedStays', WHERE WHAT IT READS IS OF BULK AT MOST 1048576: true; the input reads as it did. -/
def feedStaysUptoRow : OpenClaim := { program := "ytangjedacimmcaa", sum := "b0cac0878421e21d686501e5a86513cd00a8f5c8540c82a5867639549e2078b8", func := "paternoster/paternosterlaw10.FeedStays", spec := "feedStays", apart := false, narrowed := true }
def FeedStaysUptoSaid : Prop := feedStaysUptoRow.holds Try.pinned (OpenSpec.upto feedStaysSpec)

/-- 'paternosterlaw10.FeedDead', WHERE WHAT IT READS IS OF BULK AT MOST 1048576: true; the input reads as it did. -/
def feedDeadUptoRow : OpenClaim := { program := "ytangjedacimmcaa", sum := "b0cac0878421e21d686501e5a86513cd00a8f5c8540c82a5867639549e2078b8", func := "paternoster/paternosterlaw10.FeedDead", spec := "feedDead", apart := false, narrowed := true }
def FeedDeadUptoSaid : Prop := feedDeadUptoRow.holds Try.pinned (OpenSpec.upto feedDeadSpec)

end Rows
end Go.Proofs.Ytangjedacimmcaa
